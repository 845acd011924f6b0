/- -/
import Derived.Test.YtajljbmeaeeknaaGreatRows
import Derived.WalkKit
import Derived.ProofKit
import Derived.OpenShut
import Derived.Below
import Derived.ChangeSame
import Derived.Lib.SmallJoins
import Derived.Deep.Slices
import Derived.SizedLaws
import Derived.DataReads
import Derived.ChangeSlices
import Derived.Shelf.SlicesQ.IndexFunc
import Derived.Ground.SlgfProg
import Derived.Deep.Cut
import Derived.Test.YtajljbmeaeeknaaGreatS1
import Derived.Test.YtajljbmeaeeknaaGreatS18
open Go.Proofs.Tryz
open Go.Lib (hid)
namespace Go.Proofs.YtajljbmeaeeknaaGreat
open Go.RowKit Go.WideShapes Go.ChangeShapes
section
variable {H : Type} {enc : TypeId × Value → H} {P : Program}
theorem T3(hl:laidOutB P=true){W W':World}(hb:Below W.heap.size W W')(sp:Nat→Bool):∀(ts:List TypeId) (vs:List Value) (ds:List (DataW H)) (ps:List MemPlace),
  (∀t∈ts,P.readableRec t=true∧t<P.types.size)→DataW.TrodAll enc P W 0 (fun _=>true) true ts vs ds ps→(∀x∈ps,x.block<W.heap.size)→(∀p∈ps,sp p.block=true)→DataW.TrodAll enc P W' 0 sp true ts vs ds ps
 |[],vs,ds,ps,_,h,_,_=>by
  obtain⟨rfl,rfl,rfl⟩:=trodAll_nil h;exact trodAll_mk0
 |t::ts,vs,ds,ps,ht,h,hlt,hsp=>by
  obtain⟨v,vs',d,ds',p,q,rfl,rfl,rfl,h1,h2⟩:=trodAll_cons h;have h3:=ht t (List.mem_cons_self ..);exact trodAll_cons_mk (WideElems.Trod_stays hl h3.1 h3.2 h1 (fun x hx=>hb.same (hlt x (List.mem_append.2 (.inl hx)))) (fun x hx=>hsp x (List.mem_append.2 (.inl hx))))
   (T3 hl hb sp ts vs' ds' q (fun t' h'=>ht t' (List.mem_cons_of_mem _ h')) h2 (fun x hx=>hlt x (List.mem_append.2 (.inr hx))) (fun x hx=>hsp x (List.mem_append.2 (.inr hx))))
theorem A1m{f:Func}{s:ChangeSpec}{apart fresh handsOn again:Bool}{W W':World}{args:Array Value}{v:Value}{ds gs:List (DataW H)}{before pa pv:List MemPlace}
  (hW:DataW.Whole enc P f.params.toList s.vars apart W args.toList ds gs before)
  (hres:∀(b:Nat) (sp:Nat→Bool) (hd:Bool),DataW.TrodAll enc P W' b sp hd f.resultTypes.toList (v.resultList f.resultTypes.size) (s.fn H (ds++gs)).results [])
  (hargs:∀sp:Nat→Bool,(∀p∈before,sp p.block=true)→DataW.TrodAll enc P W' 0 sp true f.params.toList args.toList (s.fn H (ds++gs)).args pa)
  (hvars:∀sp:Nat→Bool,(∀p∈before,sp p.block=true)→DataW.TrodVars enc P W' sp s.vars (s.fn H (ds++gs)).vars pv)
  (hps:before=pa++pv) (hb:Below W.heap.size W W')
  (hok:∀(j:Nat) (t:TypeId) (r:Value),f.resultTypes[j]? =some t→(v.resultList f.resultTypes.size)[j]? =some r→Value.okWide P W' .any 0 t r):
  s.post enc P f apart fresh handsOn again W args v W':=by
 have hlt:∀p∈before,p.block<W.heap.size:=fun p hp=>hW.lt p hp
 have hold:∀p∈before,(fun b=>decide (b<W.heap.size)) p.block=true:=fun p hp=>by simpa using hlt p hp
 refine⟨ds,gs,before,[],pa,pv,hW,hres _ _ _,hargs _ hold,hvars _ hold,World.keptBut_mono (fun p hp=>⟨hp,?_⟩) (hb.frame (·∈before)),fun _=>?_⟩
 ·rw[hps,List.mem_append]at hp;exact Or.inr hp
 ·obtain⟨_,_,_,_,_,hz,hn⟩:=hW;refine⟨hok,_,_,([]++pa)++pv,⟨[]++pa,pv,trodAll_append (hargs _ (fun _ _=>rfl)) (hres _ _ _),hvars _ (fun _ _=>rfl),rfl,?_,?_⟩,?_⟩
  ·intro b off hp;have hin:MemPlace.cell b off∈before:=by rw[hps];simpa using hp
   rw[hb.frozen (hlt _ hin)];exact hz b off hin
  ·intro ha;have:=hn ha;rw[hps]at this;simpa using this
  ·intro p hp _;rw[hps];simpa using hp
theorem A4X{f:Func}{s:ChangeSpec}{apart fresh handsOn again:Bool}{W W':World}{args:Array Value}{ds gs:List (DataW H)}{before:List MemPlace}{tb:TypeId}
  (hl:laidOutB P=true) (hts:∀t∈f.params.toList,P.readableRec t=true∧t<P.types.size) (hres:f.resultTypes=#[tb]) (htb:P.underlying tb=some .bool) (hv:s.vars=[])
  (hW:DataW.Whole enc P f.params.toList s.vars apart W args.toList ds gs before) (hfn:s.fn H (ds++gs)={results:=[.lit (.bool true)],args:=ds}) (hb:Below W.heap.size W W'):
  s.post enc P f apart fresh handsOn again W args (.bool true) W':=by
 have hW2:=hW;obtain⟨p,q,hA,hV,rfl,_,_⟩:=hW2;rw[hv]at hV;obtain⟨rfl,rfl⟩:=trodVars_none hV;refine A1m (pa:=p) (pv:=[]) hW (fun b sp hd=>?_) (fun sp hsp=>?_) (fun sp _=>?_) rfl hb (ok_one hres rfl (okWide_bool_mk htb _))
 ·rw[hfn,hres];exact trodAll_mk1 (shut_bool htb _)
 ·rw[hfn];exact T3 hl hb sp _ _ _ _ hts hA (fun x hx=>hW.lt x (List.mem_append.2 (.inl hx))) (fun x hx=>hsp x (List.mem_append.2 (.inl hx)))
 ·rw[hfn,hv]
  trivial
end
end Go.Proofs.YtajljbmeaeeknaaGreat
namespace Go.Proofs.YtajljbmeaeeknaaGreat
open Go.RowKit Go.WideShapes Go.ChangeShapes Go.Deep
set_option linter.unusedVariables false
set_option linter.unusedSimpArgs false
section
variable {H : Type} {enc : TypeId × Value → H} {P : Program} {W : World} {base : Nat} {held : Bool}
def l7(k:IntKind)(x:Int):Prop:=(Lit.int k x).wf=true
theorem A0V{t e:TypeId}{elems spare:List (DataW H)}(ht:P.underlying t=some (.slice e))(hb:1≤P.bytesOf e)(hw:∀n∈(DataW.slice elems spare).weights P t,n≤reachBytes):elems.length+spare.length≤140737488351232:=by
 have h:=hw ((elems.length+spare.length)*P.bytesOf e) (by simp[DataW.weights,ht]);have h2:elems.length+spare.length≤(elems.length+spare.length)*P.bytesOf e:=Nat.le_mul_of_pos_right _ hb;unfold reachBytes at h;omega
theorem A6g(b o i j:Nat):((⟨b,o,none⟩:Addr).add i).add j=⟨b,o+i+j,none⟩:=by
 have e:∀(o i:Nat),(⟨b,o,none⟩:Addr).add i=⟨b,o+i,none⟩:=by
  intro o i;unfold Addr.add;by_cases e0:i=0
  ·rw[if_pos e0,e0];rfl
  ·rw[if_neg e0]
 rw[e,e]
theorem A0U{fs:Array Field}{t:TypeId}{parts:List (DataW H)}(ht:P.underlying t=some (.struct fs)){i:Nat}{f:Field}{d:DataW H}(hf:fs[i]? =some f)(hd:parts[i]? =some d){n:Nat}(hn:n∈d.weights P f.type):n∈(DataW.agg parts).weights P t:=by
 have h1:(fs.toList.map (·.type))[i]? =some f.type:=by rw[List.getElem?_map];simp[hf]
 have:=DataW.weights_mem_each h1 hd n hn;simpa[DataW.weights,ht]using this
theorem Q5{e:TypeId}:∀{l:List (DataW H)} {d:DataW H},d∈l→∀n∈d.weights P e,n∈DataW.weightsAll P e l
 |x::l,d,h,n,hn=>by
  simp only[DataW.weightsAll,List.mem_append];rcases List.mem_cons.1 h with rfl|h
  ·exact Or.inl hn
  ·exact Or.inr (Q5 h n hn)
structure NodeTy(P:Program)(e ei:TypeId)(f0 f1 f2 f3 f4:Field):Prop where
 st:P.underlying e=some (.struct #[f0,f1,f2,f3,f4])
 o:f0.offset=0∧f1.offset=1∧f2.offset=2∧f3.offset=3∧f4.offset=4
 u0:P.underlying f0.type=some (.int .i64)
 u1:P.underlying f1.type=some (.int .i64)
 u2:P.underlying f2.type=some (.int .i64)
 u3:P.underlying f3.type=some (.slice ei)
 u4:P.underlying f4.type=some (.int .u32)
 ui:P.underlying ei=some (.int .i64)
 c:P.cellsOf f0.type=1∧P.cellsOf f1.type=1∧P.cellsOf f2.type=1∧P.cellsOf f3.type=1∧P.cellsOf f4.type=1∧P.cellsOf ei=1∧P.cellsOf e=5
 b:1≤P.bytesOf ei
end
end Go.Proofs.YtajljbmeaeeknaaGreat
namespace Go.Proofs.YtajljbmeaeeknaaGreat
open Go.RowKit Go.WideShapes Go.ChangeShapes Go.Deep
set_option linter.unusedVariables false
set_option linter.unusedSimpArgs false
section
variable {H : Type} {enc : TypeId × Value → H} {P : Program} {W : World} {base : Nat} {held : Bool}
theorem A2g{α:Type}[Inhabited α]{t e:TypeId}{z:Nat}{R:Nat→Nat→α→Prop}{F:α→Prop}(ht:P.underlying t=some (.slice e))(hz:P.cellsOf e=z)(hz0:1≤z)(hby:1≤P.bytesOf e){fuel:Nat}{cs:List Value}{d:DataW H}{ps:List MemPlace}
  (h1:∀(fuel b o:Nat) (cs:List Value) (d:DataW H) (ps:List MemPlace),(∀i,i<z→W.cell? ⟨b,o+i,none⟩=cs[i]?)→cs.length=z→DataW.trod enc P W base (fun _=>true) held fuel e cs=some (d,ps)→(∀n∈d.weights P e,n≤reachBytes)→∃x:α,R b o x∧F x)
  (h:DataW.trod enc P W base (fun _=>true) held fuel t cs=some (d,ps)) (hw:∀n∈d.weights P t,n≤reachBytes):
  ∃(v:Value) (l:List α),cs=[v]∧Slc W v l.length z (fun i b o=>R b o (l.getD i default))∧∀x∈l,F x:=by
 rcases open_slice ht h with⟨rfl,hx⟩|⟨a,len,cap,m,n,D,Pl,rfl,hb,hl,hm,hmm,hx,hel⟩
 ·exact⟨_,[],rfl,⟨none,0,rfl,Nat.le_refl _,⟨by simp,by omega⟩,fun _=>rfl,fun i hi=>absurd hi (by simp)⟩,fun x hx=>by cases hx⟩
 ·simp only[if_true]at hmm;subst hmm;simp only[Prod.mk.injEq]at hx;obtain⟨hd,_⟩:=hx;have hcap:m≤140737488351232:=by
   rw[hd]at hw;have:=A0V ht hby hw;simp at this;omega
  by_cases hl0:len=0
  ·subst hl0;exact⟨_,[],rfl,⟨some a,m,rfl,by omega,⟨by simp,by omega⟩,(fun hh=>by cases hh),fun i hi=>absurd hi (by simp)⟩,fun x hx=>by cases hx⟩
  have hsp:a.spot=none:=by
   obtain⟨cs',h1,_⟩:=hel 0 (by omega);rw[hz]at h1;obtain⟨_,hl5,hg⟩:=World.cells?_some h1;have h0:=hg 0 (by omega);have e0:(a.add (0*z)).add 0=a:=by simp[Addr.add]
   rw[e0,List.getElem?_eq_getElem (by omega)]at h0;exact World.cell?_spot h0
  obtain⟨b,o,s⟩:=a;simp only at hsp;subst hsp;obtain⟨V,hV⟩:=choose_lt (α:=α) (n:=len) (p:=fun i x=>b<W.heap.size∧R b (o+i*z) x∧F x) (fun i hi=>by
   obtain⟨cs',g1,g2⟩:=hel i (by omega);rw[hz]at g1;obtain⟨_,hl5,hg⟩:=World.cells?_some g1;have hg':∀j,j<z→W.cell? ⟨b,o+i*z+j,none⟩=cs'[j]? :=fun j hj=>by rw[←A6g b o (i*z) j];exact hg j hj
   obtain⟨x,q1,q2⟩:=h1 _ b (o+i*z) cs' _ _ hg' hl5 g2 (fun k hk=>by
    refine hw k ?_;rw[hd];simp only[DataW.weights,ht,List.mem_cons,List.mem_append];exact Or.inr (Or.inl (Q5 (List.mem_map.2 ⟨i,List.mem_range.2 hi,rfl⟩) k hk)))
   have h0:=hg' 0 (by omega);rw[List.getElem?_eq_getElem (by omega)]at h0;exact⟨x,B6 h0,q1,q2⟩)
  have hlen:((List.range len).map V).length=len:=by simp
  have hget:∀i,i<len→((List.range len).map V).getD i default=V i:=fun i hi=>by
   rw[List.getD_eq_getElem?_getD,List.getElem?_map,List.getElem?_range hi];rfl
  refine⟨_,(List.range len).map V,rfl,⟨some ⟨b,o,none⟩,m,by rw[hlen],by omega,⟨by omega,by omega⟩,(fun hh=>by cases hh),fun i hi=>?_⟩,fun x hx=>?_⟩
  ·rw[hlen]at hi;refine⟨b,o,rfl,(hV i hi).1,?_⟩;show R b (o+i*z) _
   rw[hget i hi];exact(hV i hi).2.1
  ·obtain⟨i,hi,rfl⟩:=List.mem_map.1 hx;exact(hV i (List.mem_range.1 hi)).2.2
end
end Go.Proofs.YtajljbmeaeeknaaGreat
namespace Go.Proofs.YtajljbmeaeeknaaGreat
open Go.RowKit Go.WideShapes Go.ChangeShapes Go.Deep
set_option linter.unusedVariables false
set_option linter.unusedSimpArgs false
structure Sy where
 n:Int
 a:Int
 deriving Inhabited
structure Wn where
 a:Int
 k:Int
 n:Int
 p:Int
 deriving Inhabited
structure Ob where
 b:List Int
 s:List Sy
 t:List Wn
 deriving Inhabited
def SyAt(w:World)(b o:Nat)(x:Sy):Prop:=w.cell? ⟨b,o,none⟩=some (.int .i64 x.n)∧w.cell? ⟨b,o+1,none⟩=some (.int .i64 x.a)
def WnAt(w:World)(b o:Nat)(x:Wn):Prop:=w.cell? ⟨b,o,none⟩=some (.int .i64 x.a)∧w.cell? ⟨b,o+1,none⟩=some (.int .i64 x.k)∧w.cell? ⟨b,o+2,none⟩=some (.int .i64 x.n)∧w.cell? ⟨b,o+3,none⟩=some (.int .i64 x.p)
def Sys(w:World)(v:Value)(l:List Sy):Prop:=Slc w v l.length 2 fun i b o=>SyAt w b o (l.getD i default)
def Wns(w:World)(v:Value)(l:List Wn):Prop:=Slc w v l.length 4 fun i b o=>WnAt w b o (l.getD i default)
def Ob3(w:World)(vb vs vt:Value)(x:Ob):Prop:=Ints .u8 w vb x.b∧Sys w vs x.s∧Wns w vt x.t
def ObAt(w:World)(b o:Nat)(x:Ob):Prop:=∃vb vs vt,w.cell? ⟨b,o,none⟩=some vb∧w.cell? ⟨b,o+1,none⟩=some vs∧w.cell? ⟨b,o+2,none⟩=some vt∧Ob3 w vb vs vt x
def Obs(w:World)(v:Value)(l:List Ob):Prop:=Slc w v l.length 3 fun i b o=>ObAt w b o (l.getD i default)
theorem SyAt.stays{w w':World}{b o:Nat}{x:Sy}(h:SyAt w b o x)(hlt:b<w.heap.size)(hb:Below w.heap.size w w'):SyAt w' b o x:=⟨A7 hb hlt h.1,A7 hb hlt h.2⟩
theorem WnAt.stays{w w':World}{b o:Nat}{x:Wn}(h:WnAt w b o x)(hlt:b<w.heap.size)(hb:Below w.heap.size w w'):WnAt w' b o x:=⟨A7 hb hlt h.1,A7 hb hlt h.2.1,A7 hb hlt h.2.2.1,A7 hb hlt h.2.2.2⟩
theorem Sys.stays{w w':World}{v:Value}{l:List Sy}(h:Sys w v l)(hb:Below w.heap.size w w'):Sys w' v l:=Slc.stays h hb fun _ _ _ hlt hc=>hc.stays hlt hb
theorem Wns.stays{w w':World}{v:Value}{l:List Wn}(h:Wns w v l)(hb:Below w.heap.size w w'):Wns w' v l:=Slc.stays h hb fun _ _ _ hlt hc=>hc.stays hlt hb
theorem Ob3.stays{w w':World}{vb vs vt:Value}{x:Ob}(h:Ob3 w vb vs vt x)(hb:Below w.heap.size w w'):Ob3 w' vb vs vt x:=⟨h.1.stays hb,h.2.1.stays hb,h.2.2.stays hb⟩
theorem ObAt.stays{w w':World}{b o:Nat}{x:Ob}(h:ObAt w b o x)(hlt:b<w.heap.size)(hb:Below w.heap.size w w'):ObAt w' b o x:=by
 obtain⟨vb,vs,vt,h1,h2,h3,h4⟩:=h;exact⟨vb,vs,vt,A7 hb hlt h1,A7 hb hlt h2,A7 hb hlt h3,h4.stays hb⟩
theorem Obs.stays{w w':World}{v:Value}{l:List Ob}(h:Obs w v l)(hb:Below w.heap.size w w'):Obs w' v l:=Slc.stays h hb fun _ _ _ hlt hc=>hc.stays hlt hb
section
variable {H : Type} {enc : TypeId × Value → H} {P : Program} {W : World} {base : Nat} {held : Bool}
structure ObTy(P:Program)(e es ew eb ts tw:TypeId)(f0 f1 f2 s0 s1 g0 g1 g2 g3:Field):Prop where
 st:P.underlying e=some (.struct #[f0,f1,f2])
 ss:P.underlying es=some (.struct #[s0,s1])
 sw:P.underlying ew=some (.struct #[g0,g1,g2,g3])
 o:f0.offset=0∧f1.offset=1∧f2.offset=2∧s0.offset=0∧s1.offset=1∧g0.offset=0∧g1.offset=1∧g2.offset=2∧g3.offset=3
 u0:P.underlying f0.type=some (.slice eb)
 u1:P.underlying f1.type=some (.slice es)
 u2:P.underlying f2.type=some (.slice ew)
 ub:P.underlying eb=some (.int .u8)
 us:P.underlying s0.type=some (.int .i64)∧P.underlying s1.type=some (.int .i64)
 uw:P.underlying g0.type=some (.int .i64)∧P.underlying g1.type=some (.int .i64)∧P.underlying g2.type=some (.int .i64)∧P.underlying g3.type=some (.int .i64)
 c:P.cellsOf f0.type=1∧P.cellsOf f1.type=1∧P.cellsOf f2.type=1∧P.cellsOf s0.type=1∧P.cellsOf s1.type=1∧P.cellsOf g0.type=1∧P.cellsOf g1.type=1∧P.cellsOf g2.type=1∧P.cellsOf g3.type=1
 z:P.cellsOf e=3∧P.cellsOf es=2∧P.cellsOf ew=4∧P.cellsOf eb=1
 b:1≤P.bytesOf eb∧1≤P.bytesOf es∧1≤P.bytesOf ew∧1≤P.bytesOf e
variable {e es ew eb ts tw : TypeId} {f0 f1 f2 s0 s1 g0 g1 g2 g3 : Field}
def SyF(x:Sy):Prop:=l7 .i64 x.n∧l7 .i64 x.a
def WnF(x:Wn):Prop:=l7 .i64 x.a∧l7 .i64 x.k∧l7 .i64 x.n∧l7 .i64 x.p
def ObF(x:Ob):Prop:=(∀y∈x.b,l7 .u8 y)∧(∀y∈x.s,SyF y)∧∀y∈x.t,WnF y
end
end Go.Proofs.YtajljbmeaeeknaaGreat
namespace Go.Proofs.YtajljbmeaeeknaaGreat
open Go.RowKit
set_option linter.unusedVariables false
set_option linter.unusedSimpArgs false
def T4(n:Int):Bool:=decide (-2147483648≤n)&&decide (n≤2147483647)
def U7(x:Wn)(size:Int):Bool:=decide (0≤x.a)&&decide (x.a≤size-4)&&(x.k==0||x.k==1)&&T4 x.n&&T4 x.p
def V9(size:Int)(s:Sy):Bool:= !T4 s.n||decide (s.a<0)||decide (size<s.a)
def P2(x y:Wn):Bool:=decide (x.a<wrap64 (y.a+4))&&decide (y.a<wrap64 (x.a+4))
def M2(near:Wn→Wn→Bool)(size:Int)(t:List Wn)(n:Nat):Bool:=(List.range n).any fun i=> !U7 (t.getD i default) size||(t.take i).any (near (t.getD i default))
def P4(s:List Sy)(n:Nat):Bool:=(List.range n).any fun i=>(s.take i).any fun u=>(s.getD i default).n==u.n
def A4B(near:Wn→Wn→Bool)(o:Ob):Int:=
 if 8192<o.b.length∨64<o.s.length∨64<o.t.length then 3
 else if o.s.any (V9 o.b.length)then 1
 else if M2 near o.b.length o.t o.t.length then 1
 else if P4 o.s o.s.length then 7 else 0
def F7(o:Ob):Int:=A4B P2 o
theorem R9(n:Nat)(f:Nat→Bool):(List.range (n+1)).any f=((List.range n).any f||f n):=by
 rw[List.range_succ,List.any_append];simp
theorem A3z{x:Wn}{z:Int}(h:U7 x z=true):0≤x.a∧x.a≤z-4∧(x.k=0∨x.k=1)∧(-2147483648≤x.n∧x.n≤2147483647)∧-2147483648≤x.p∧x.p≤2147483647:=by
 simp only[U7,T4,Bool.and_eq_true,Bool.or_eq_true,decide_eq_true_eq,beq_iff_eq]at h;omega
theorem A2v{near:Wn→Wn→Bool}{z:Int}{t:List Wn}{n:Nat}(h:M2 near z t n=false)(hn:n≤t.length):∀y∈t.take n,U7 y z=true:=by
 intro y hy;obtain⟨i,hi,rfl⟩:=List.getElem_of_mem hy;rw[List.length_take]at hi;have h1:=List.any_eq_false.1 h i (List.mem_range.2 (by omega));simp only[Bool.or_eq_true,not_or,Bool.not_eq_true,Bool.not_eq_eq_eq_not]at h1;have h2:=h1.1;rw[List.getD_eq_getElem?_getD,List.getElem?_eq_getElem (by omega)]at h2;simp at h2;simpa using h2
theorem P8(n:Int)(w:World):Calls prog 132 #[.int .i64 n] w fun e w'=>e= .returned (.bool (T4 n))∧w=w':=by
 unfold T4;cases h1:decide (-2147483648≤n)
 ·go_enter func132,ntmps132;go_wp2_with fail
  go_ret;exact⟨rfl,rfl⟩
 ·cases h2:decide (n≤2147483647)
  all_goals go_enter func132,ntmps132
  all_goals go_wp2_with fail
  all_goals go_ret
  all_goals exact⟨rfl,rfl⟩
set_option maxHeartbeats 2000000 in
theorem A2A(x:Wn)(z:Int)(w:World)(hz: -1≤z∧z≤1000000):Calls prog 133 #[.agg #[.int .i64 x.a,.int .i64 x.k,.int .i64 x.n,.int .i64 x.p],.int .i64 z] w fun e w'=>e= .returned (.bool (U7 x z))∧Below w.heap.size w w':=by
 obtain⟨a,k,n,p⟩:=x;simp only[U7];have HB:Hid (Below w.heap.size w (w.alloc (.cells #[.int .i64 a,.int .i64 k,.int .i64 n,.int .i64 p] 150))):=(Below.refl _ _).alloc (Nat.le_refl _) _;have C1:=hid fun w=>P8 n w
 have C2:=hid fun w=>P8 p w
 generalize T4 n=bn at*
 generalize T4 p=bp at*
 cases h1:decide (0≤a)
 ·go_enter func133,ntmps133;go_wp2_with fail
  go_ret;exact⟨rfl,HB.out⟩
 cases h2:decide (a≤z-4)
 ·go_enter func133,ntmps133;go_wp2_with fail
  go_ret;exact⟨rfl,HB.out⟩
 cases h3:(k==0)<;>cases h4:(k==1)<;>cases bn<;>cases bp
 all_goals go_enter func133,ntmps133
 all_goals go_wp2_with(first|(go_at_call 132;with_reducible first|refine(C1.out _).mono ?_|refine(C2.out _).mono ?_);rintro e w' ⟨rfl,rfl⟩)
 all_goals go_ret
 all_goals exact⟨rfl,HB.out⟩
theorem A5h(s:Sy)(z B:Nat)(vb:Option Addr)(cb:Nat)(w:World)(hB:B<w.heap.size)(hb:w.cell? ⟨B,0,none⟩=some (.slice vb z cb)):
  Calls prog 131 #[.agg #[.int .i64 s.n,.int .i64 s.a],.pointer (some ⟨B,0,none⟩)] w fun e w'=>e= .returned (.bool (V9 z s))∧Below w.heap.size w w':=by
 obtain⟨n,a⟩:=s;simp only[V9];have hne:¬B=w.heap.size:=by omega
 have HB:Hid (Below w.heap.size w (w.alloc (.cells #[.int .i64 n,.int .i64 a] 40))):=(Below.refl _ _).alloc (Nat.le_refl _) _;have C1:=hid fun w=>P8 n w
 generalize T4 n=bn at*
 cases bn<;>cases h1:decide (a<0)<;>cases h2:decide ((z:Int)<a)
 all_goals go_enter func131,ntmps131
 all_goals go_wp2_with(go_at_call 132;with_reducible refine(C1.out _).mono ?_;rintro e w' ⟨rfl,rfl⟩)
 all_goals go_ret
 all_goals exact⟨rfl,HB.out⟩
theorem A5g(x y:Wn)(B:Nat)(w:World)(hB:B<w.heap.size)(hb:w.cell? ⟨B,0,none⟩=some (.int .i64 x.a)):
  Calls prog 135 #[.agg #[.int .i64 y.a,.int .i64 y.k,.int .i64 y.n,.int .i64 y.p],.pointer (some ⟨B,0,none⟩)] w fun e w'=>e= .returned (.bool (P2 x y))∧Below w.heap.size w w':=by
 obtain⟨a,k,n,p⟩:=y;obtain⟨a',k',n',p'⟩:=x;simp only[P2]at hb⊢;have hne:¬B=w.heap.size:=by omega
 have HB:Hid (Below w.heap.size w (w.alloc (.cells #[.int .i64 a,.int .i64 k,.int .i64 n,.int .i64 p] 150))):=(Below.refl _ _).alloc (Nat.le_refl _) _;generalize hy:wrap64 (a+4)=y;generalize hy':wrap64 (a'+4)=y';cases h1:decide (a'<y)<;>cases h2:decide (a<y')
 all_goals go_enter func135,ntmps135
 all_goals go_wp2_with fail
 all_goals go_ret
 all_goals exact⟨rfl,HB.out⟩
theorem A5f(x y:Sy)(B:Nat)(w:World)(hB:B<w.heap.size)(hb:w.cell? ⟨B,0,none⟩=some (.int .i64 x.n)):
  Calls prog 136 #[.agg #[.int .i64 y.n,.int .i64 y.a],.pointer (some ⟨B,0,none⟩)] w fun e w'=>e= .returned (.bool (x.n==y.n))∧Below w.heap.size w w':=by
 obtain⟨n,a⟩:=y;obtain⟨n',a'⟩:=x;simp only at hb⊢;have hne:¬B=w.heap.size:=by omega
 have HB:Hid (Below w.heap.size w (w.alloc (.cells #[.int .i64 n,.int .i64 a] 40))):=(Below.refl _ _).alloc (Nat.le_refl _) _;cases h1:(n'==n)
 all_goals go_enter func136,ntmps136
 all_goals go_wp2_with fail
 all_goals go_ret
 all_goals exact⟨rfl,HB.out⟩
end Go.Proofs.YtajljbmeaeeknaaGreat
namespace Go.Proofs
open Go.Shelf Go.RowKit Go.Lib
def contS_ren:Go.Shelf.Ren:=⟨fun|8=>130|6=>200|n=>n,fun|22=>29|23=>40|25=>216|4=>4|3=>3|0=>0|n=>n,fun|n=>n⟩
theorem contS:Go.Proofs.SlLaysH0.n8 prog contS_ren:={
 mixed:=by kernel_rfl
 f6:=⟨f200.name,by decide,func200.trans (congrArg some (by kernel_rfl))⟩
 f8:=⟨f130.name,by decide,func130.trans (congrArg some (by kernel_rfl))⟩
 t0:=underlying0
 a0:=isAgg0
 z0:=sizeOf0
 v0:=zeroValue0
 t3:=underlying3
 a3:=isAgg3
 z3:=sizeOf3
 v3:=zeroValue3
 t4:=underlying4
 a4:=isAgg4
 z4:=sizeOf4
 v4:=zeroValue4
 t22:=underlying29
 a22:=isAgg29
 z22:=sizeOf29
 v22:=zeroValue29
 t25:=underlying216
 a25:=isAgg216
 z25:=sizeOf216
 v25:=zeroValue216}
def contW_ren:Go.Shelf.Ren:=⟨fun|8=>134|6=>201|n=>n,fun|22=>30|23=>150|25=>219|4=>4|3=>3|0=>0|n=>n,fun|n=>n⟩
theorem contW:Go.Proofs.SlLaysH0.n8 prog contW_ren:={
 mixed:=by kernel_rfl
 f6:=⟨f201.name,by decide,func201.trans (congrArg some (by kernel_rfl))⟩
 f8:=⟨f134.name,by decide,func134.trans (congrArg some (by kernel_rfl))⟩
 t0:=underlying0
 a0:=isAgg0
 z0:=sizeOf0
 v0:=zeroValue0
 t3:=underlying3
 a3:=isAgg3
 z3:=sizeOf3
 v3:=zeroValue3
 t4:=underlying4
 a4:=isAgg4
 z4:=sizeOf4
 v4:=zeroValue4
 t22:=underlying30
 a22:=isAgg30
 z22:=sizeOf30
 v22:=zeroValue30
 t25:=underlying219
 a25:=isAgg219
 z25:=sizeOf219
 v25:=zeroValue219}
end Go.Proofs
namespace Go.Proofs.YtajljbmeaeeknaaGreat
open Go.RowKit
set_option linter.unusedVariables false
set_option linter.unusedSimpArgs false
def A2K(x:Sy):List Value:=[.int .i64 x.n,.int .i64 x.a]
def A1L(x:Wn):List Value:=[.int .i64 x.a,.int .i64 x.k,.int .i64 x.n,.int .i64 x.p]
theorem A2M(a:Option Addr)(c:Nat)(f:Value)(w:World):Calls prog 130 #[.slice a 0 c,f] w fun e w'=>e= .returned (.bool false)∧Below w.heap.size w w':=by
 have C:Hid (∀w,Calls prog 200 #[.slice a 0 c,f] w fun e w'=>e= .returned (.int .i64 (-1))∧w=w'):=hid fun w=>by
  go_enter func200,ntmps200;exact A7H
 have HB:=hid (Below.refl w.heap.size w);go_enter func130,ntmps130;go_wp2_with(go_at_call 200;with_reducible refine(C.out _).mono ?_;rintro e w' ⟨rfl,rfl⟩)
 go_ret;exact⟨rfl,HB.out⟩
theorem A2L(a:Option Addr)(c:Nat)(f:Value)(w:World):Calls prog 134 #[.slice a 0 c,f] w fun e w'=>e= .returned (.bool false)∧Below w.heap.size w w':=by
 have C:Hid (∀w,Calls prog 201 #[.slice a 0 c,f] w fun e w'=>e= .returned (.int .i64 (-1))∧w=w'):=hid fun w=>by
  go_enter func201,ntmps201;exact A7H
 have HB:=hid (Below.refl w.heap.size w);go_enter func134,ntmps134;go_wp2_with(go_at_call 201;with_reducible refine(C.out _).mono ?_;rintro e w' ⟨rfl,rfl⟩)
 go_ret;exact⟨rfl,HB.out⟩
theorem q8{α:Type}[Inhabited α](l:List α)(j:Nat)(h:j<l.length):l[j]! =l.getD j default:=by
 rw[List.getD_eq_getElem?_getD,List.getElem?_eq_getElem h,getElem!_pos l j h];rfl
theorem r8(l:List Sy)(p:Sy→Bool)(g:Nat)(lb:Array Value)(eg:∀args w,(callFunc g args).run prog w= .ok (.enter g args) w)(n c:Nat)(a:Option Addr)(w:World)
  (hS:∀i,i<l.length→∃b o,a=some ⟨b,o,none⟩∧b<w.heap.size∧SyAt w b (o+i*2) (l.getD i default)) (hn:n≤l.length) (hl:l.length≤140737488351232)
  (hp:PredBelow prog g lb (fun x=>.agg (A2K x).toArray) p w):
  Calls prog 130 #[.slice a n c,.func (.func g) #[] lb] w fun e w'=>e= .returned (.bool ((l.take n).any p))∧Below w.heap.size w w':=by
 by_cases h0:n=0
 ·subst h0;exact A2M a c _ w
 ·obtain⟨b,o,rfl,hb,-⟩:=hS 0 (by omega);refine AnyQ.slices_ContainsFunc contS 2 isAgg40 sizeOf40 A2K (fun _=>rfl) p g lb eg b o n c l w hp hn (by omega) hb (fun j hj i v hi=>?_);obtain⟨b',o',e,-,h1,h2⟩:=hS j hj;cases e;rw[q8 l j hj]at hi;generalize l.getD j default=y at hi h1 h2
  match i,hi with
  |0,hi=>simp[A2K]at hi;rw[←hi];exact h1
  |1,hi=>simp[A2K]at hi;rw[←hi];exact h2
  |i+2,hi=>simp[A2K]at hi
theorem A3h(l:List Wn)(p:Wn→Bool)(g:Nat)(lb:Array Value)(eg:∀args w,(callFunc g args).run prog w= .ok (.enter g args) w)(n c:Nat)(a:Option Addr)(w:World)
  (hS:∀i,i<l.length→∃b o,a=some ⟨b,o,none⟩∧b<w.heap.size∧WnAt w b (o+i*4) (l.getD i default)) (hn:n≤l.length) (hl:l.length≤140737488351232)
  (hp:PredBelow prog g lb (fun x=>.agg (A1L x).toArray) p w):
  Calls prog 134 #[.slice a n c,.func (.func g) #[] lb] w fun e w'=>e= .returned (.bool ((l.take n).any p))∧Below w.heap.size w w':=by
 by_cases h0:n=0
 ·subst h0;exact A2L a c _ w
 ·obtain⟨b,o,rfl,hb,-⟩:=hS 0 (by omega);refine AnyQ.slices_ContainsFunc contW 4 isAgg150 sizeOf150 A1L (fun _=>rfl) p g lb eg b o n c l w hp hn (by omega) hb (fun j hj i v hi=>?_);obtain⟨b',o',e,-,h1,h2,h3,h4⟩:=hS j hj;cases e;rw[q8 l j hj]at hi;generalize l.getD j default=y at hi h1 h2 h3 h4
  match i,hi with
  |0,hi=>simp[A1L]at hi;rw[←hi];exact h1
  |1,hi=>simp[A1L]at hi;rw[←hi];exact h2
  |2,hi=>simp[A1L]at hi;rw[←hi];exact h3
  |3,hi=>simp[A1L]at hi;rw[←hi];exact h4
  |i+4,hi=>simp[A1L]at hi
theorem eg1:∀args w,(callFunc 131 args).run prog w= .ok (.enter 131 args) w:=enters_of func131 (by kernel_rfl) rfl
theorem eg2:∀args w,(callFunc 135 args).run prog w= .ok (.enter 135 args) w:=enters_of func135 (by kernel_rfl) rfl
theorem eg3:∀args w,(callFunc 136 args).run prog w= .ok (.enter 136 args) w:=enters_of func136 (by kernel_rfl) rfl
theorem A9F(z B:Nat)(vb:Option Addr)(cb:Nat)(w:World)(hB:B<w.heap.size)(hb:w.cell? ⟨B,0,none⟩=some (.slice vb z cb)):PredBelow prog 131 #[.pointer (some ⟨B,0,none⟩)] (fun x=>.agg (A2K x).toArray) (V9 z) w:=fun W x h=>
 (A5h x z B vb cb W (Nat.lt_of_lt_of_le hB h.size) ((h.cell (p:=⟨B,0,none⟩) hB).trans hb)).mono fun e w' ⟨he,h'⟩=>⟨he,h.trans (h'.mono h.size)⟩
theorem A9E(x:Wn)(B:Nat)(w:World)(hB:B<w.heap.size)(hb:w.cell? ⟨B,0,none⟩=some (.int .i64 x.a)):PredBelow prog 135 #[.pointer (some ⟨B,0,none⟩)] (fun x=>.agg (A1L x).toArray) (P2 x) w:=fun W y h=>
 (A5g x y B W (Nat.lt_of_lt_of_le hB h.size) ((h.cell (p:=⟨B,0,none⟩) hB).trans hb)).mono fun e w' ⟨he,h'⟩=>⟨he,h.trans (h'.mono h.size)⟩
theorem A9D(x:Sy)(B:Nat)(w:World)(hB:B<w.heap.size)(hb:w.cell? ⟨B,0,none⟩=some (.int .i64 x.n)):PredBelow prog 136 #[.pointer (some ⟨B,0,none⟩)] (fun x=>.agg (A2K x).toArray) (fun y=>x.n==y.n) w:=fun W y h=>
 (A5f x y B W (Nat.lt_of_lt_of_le hB h.size) ((h.cell (p:=⟨B,0,none⟩) hB).trans hb)).mono fun e w' ⟨he,h'⟩=>⟨he,h.trans (h'.mono h.size)⟩
theorem Sys.shape{w:World}{v:Value}{l:List Sy}(h:Sys w v l):∃a c,v= .slice a l.length c∧l.length≤c∧l.length≤140737488351232∧∀i,i<l.length→∃b o,a=some ⟨b,o,none⟩∧b<w.heap.size∧SyAt w b (o+i*2) (l.getD i default):=by
 obtain⟨a,c,rfl,h1,h2,_,h3⟩:=h;exact⟨a,c,rfl,h1,h2.1,h3⟩
theorem Wns.shape{w:World}{v:Value}{l:List Wn}(h:Wns w v l):∃a c,v= .slice a l.length c∧l.length≤c∧l.length≤140737488351232∧∀i,i<l.length→∃b o,a=some ⟨b,o,none⟩∧b<w.heap.size∧WnAt w b (o+i*4) (l.getD i default):=by
 obtain⟨a,c,rfl,h1,h2,_,h3⟩:=h;exact⟨a,c,rfl,h1,h2.1,h3⟩
theorem Ints.shape2{k:IntKind}{w:World}{v:Value}{l:List Int}(h:Ints k w v l):∃a c,v= .slice a l.length c∧l.length≤c∧l.length≤140737488351232:=by
 obtain⟨a,c,rfl,h1,h2,_⟩:=h;exact⟨a,c,rfl,h1,h2.1⟩
theorem Z5{w w':World}{a:Option Addr}{l:List Sy}(h:∀i,i<l.length→∃b o,a=some ⟨b,o,none⟩∧b<w.heap.size∧SyAt w b (o+i*2) (l.getD i default))(hb:Below w.heap.size w w'):∀i,i<l.length→∃b o,a=some ⟨b,o,none⟩∧b<w'.heap.size∧SyAt w' b (o+i*2) (l.getD i default):=fun i hi=>by
 obtain⟨b,o,e,h1,h2⟩:=h i hi;exact⟨b,o,e,Nat.lt_of_lt_of_le h1 hb.size,h2.stays h1 hb⟩
theorem g8{w w':World}{a:Option Addr}{l:List Wn}(h:∀i,i<l.length→∃b o,a=some ⟨b,o,none⟩∧b<w.heap.size∧WnAt w b (o+i*4) (l.getD i default))(hb:Below w.heap.size w w'):∀i,i<l.length→∃b o,a=some ⟨b,o,none⟩∧b<w'.heap.size∧WnAt w' b (o+i*4) (l.getD i default):=fun i hi=>by
 obtain⟨b,o,e,h1,h2⟩:=h i hi;exact⟨b,o,e,Nat.lt_of_lt_of_le h1 hb.size,h2.stays h1 hb⟩
theorem P3{o:Ob}(h:8192<o.b.length∨64<o.s.length∨64<o.t.length):F7 o=3:=if_pos h
theorem u7{o:Ob}(h:¬(8192<o.b.length∨64<o.s.length∨64<o.t.length))(h1:o.s.any (V9 o.b.length)=true):F7 o=1:=by
 unfold F7 A4B;rw[if_neg h,if_pos h1]
theorem u6{o:Ob}(h:¬(8192<o.b.length∨64<o.s.length∨64<o.t.length))(h1:o.s.any (V9 o.b.length)=false)(h2:M2 P2 o.b.length o.t o.t.length=true):F7 o=1:=by
 unfold F7 A4B;rw[if_neg h,h1,if_neg (by simp),if_pos h2]
theorem A7A{o:Ob}(h:¬(8192<o.b.length∨64<o.s.length∨64<o.t.length))(h1:o.s.any (V9 o.b.length)=false)(h2:M2 P2 o.b.length o.t o.t.length=false)(h3:P4 o.s o.s.length=true):F7 o=7:=by
 unfold F7 A4B;rw[if_neg h,h1,if_neg (by simp),h2,if_neg (by simp),if_pos h3]
theorem A7B{o:Ob}(h:¬(8192<o.b.length∨64<o.s.length∨64<o.t.length))(h1:o.s.any (V9 o.b.length)=false)(h2:M2 P2 o.b.length o.t o.t.length=false)(h3:P4 o.s o.s.length=false):F7 o=0:=by
 unfold F7 A4B;rw[if_neg h,h1,if_neg (by simp),h2,if_neg (by simp),h3,if_neg (by simp)]
theorem g7{near:Wn→Wn→Bool}{z:Int}{t:List Wn}{n j:Nat}(hj:j<n)(h:(!U7 (t.getD j default) z||(t.take j).any (near (t.getD j default)))=true):M2 near z t n=true:=
 List.any_eq_true.2 ⟨j,List.mem_range.2 hj,h⟩
theorem A0W{near:Wn→Wn→Bool}{z:Int}{t:List Wn}{j:Nat}(h0:M2 near z t j=false)(h:(!U7 (t.getD j default) z||(t.take j).any (near (t.getD j default)))=false):M2 near z t (j+1)=false:=by
 unfold M2 at h0⊢;rw[R9,h0,h];rfl
theorem A1e{s:List Sy}{n j:Nat}(hj:j<n)(h:((s.take j).any fun u=>(s.getD j default).n==u.n)=true):P4 s n=true:=
 List.any_eq_true.2 ⟨j,List.mem_range.2 hj,h⟩
theorem A0Y{s:List Sy}{j:Nat}(h0:P4 s j=false)(h:((s.take j).any fun u=>(s.getD j default).n==u.n)=false):P4 s (j+1)=false:=by
 unfold P4 at h0⊢;rw[R9,h0,h];rfl
set_option maxRecDepth 100000 in
set_option maxHeartbeats 4000000 in
theorem A4k(o:Ob)(vb vs vt:Value)(w:World)(h:Ob3 w vb vs vt o):Calls prog 97 #[.agg #[vb,vs,vt]] w fun e w'=>e= .returned (.int .i64 (F7 o))∧Below w.heap.size w w':=by
 obtain⟨hb,hs,ht⟩:=h;obtain⟨ba,cb,rfl,hb1,hb2⟩:=hb.shape2;obtain⟨sa,cs,rfl,hs1,hs2,hs3⟩:=hs.shape;obtain⟨ta,ct,rfl,ht1,ht2,ht3⟩:=ht.shape;clear hb hs ht;have B0:=hid ((Below.refl _ w).alloc (Nat.le_refl _) (.cells #[.slice ba o.b.length cb,.slice sa o.s.length cs,.slice ta o.t.length ct] 32));cases g1:decide ((8192:Int)<(o.b.length:Int))
 case true=>
  have HV:Hid (F7 o=3):=P3 (.inl (by have:=of_decide_eq_true g1;omega));clear hs3 ht3;go_enter func97,ntmps97;go_wp2_with fail
  go_ret;exact⟨E9 HV.out.symm,B0.out⟩
 cases g2:decide ((64:Int)<(o.s.length:Int))
 case true=>
  have HV:Hid (F7 o=3):=P3 (.inr (.inl (by have:=of_decide_eq_true g2;omega)));clear hs3 ht3;go_enter func97,ntmps97;go_wp2_with fail
  go_ret;exact⟨E9 HV.out.symm,B0.out⟩
 cases g3:decide ((64:Int)<(o.t.length:Int))
 case true=>
  have HV:Hid (F7 o=3):=P3 (.inr (.inr (by have:=of_decide_eq_true g3;omega)));clear hs3 ht3;go_enter func97,ntmps97;go_wp2_with fail
  go_ret;exact⟨E9 HV.out.symm,B0.out⟩
 have G:Hid (¬(8192<o.b.length∨64<o.s.length∨64<o.t.length)):=fun h=>by
  have:=of_decide_eq_false g1;have:=of_decide_eq_false g2;have:=of_decide_eq_false g3;omega
 have hz:=of_decide_eq_false g1;obtain⟨W1,hW1⟩:∃W,w.alloc (.cells #[.slice ba o.b.length cb,.slice sa o.s.length cs,.slice ta o.t.length ct] 32)=W:=⟨_,rfl⟩
 have q0:W1.cell? ⟨w.heap.size,0,none⟩=some (.slice ba o.b.length cb):=by rw[←hW1];simp[go_sem]
 have q1:W1.cell? ⟨w.heap.size,1,none⟩=some (.slice sa o.s.length cs):=by rw[←hW1];simp[go_sem]
 have q2:W1.cell? ⟨w.heap.size,2,none⟩=some (.slice ta o.t.length ct):=by rw[←hW1];simp[go_sem]
 have hlt:w.heap.size<W1.heap.size:=by rw[←hW1];simp
 rw[hW1]at B0;have C1:=hid (r8 o.s (V9 o.b.length) 131 #[.pointer (some ⟨w.heap.size,0,none⟩)] eg1 o.s.length cs sa W1 (Z5 hs3 (B0.out.mono (Nat.le_refl _))) (Nat.le_refl _) hs2 (A9F o.b.length w.heap.size ba cb W1 hlt q0));rw[List.take_length]at C1;have HS:=hid (Z5 hs3 B0.out);have HT:=hid (g8 ht3 B0.out);clear hs3 ht3;cases g4:o.s.any (V9 o.b.length)
 case true=>
  have HV:Hid (F7 o=1):=u7 G.out g4;rw[g4]at C1;clear HS HT g4;go_enter func97,ntmps97;go_wp2_with(go_at_call 130;with_reducible refine C1.out.mono ?_;rintro e w2 ⟨rfl,hb2⟩)
  go_ret;exact⟨E9 HV.out.symm,B7 B0.out (by omega) hb2⟩
 rw[g4]at C1;have G4:=hid g4;clear g4;have hn4:wrap64 ((o.b.length:Int))=o.b.length:=IntWalk.wrap64_in _ (by omega);go_enter func97,ntmps97;go_wp2_with(go_at_call 130;with_reducible refine C1.out.mono ?_;rintro e w2 ⟨rfl,hb2⟩;have p0:=A7 hb2 hlt q0;have p1:=A7 hb2 hlt q1;have p2:=A7 hb2 hlt q2;have HB2:=hid hb2;clear hb2 C1 q0 q1 q2 hW1)
 have T0:=hid p0;have T1:=hid p1;have T2:=hid p2;have HS2:=hid (Z5 HS.out HB2.out);have HT2:=hid (g8 HT.out HB2.out);have hlt2:w.heap.size<w2.heap.size:=Nat.lt_of_lt_of_le hlt HB2.out.size;have HB0:Hid (Below w.heap.size w w2):=B7 B0.out (by omega) HB2.out;clear HS HT HB2 B0 hlt p0 p1 p2
 go_loopw[3,4,30] (fun _ _ i wr=>∃j:Nat,j≤o.t.length∧i= .int .i64 j∧Hid (M2 P2 o.b.length o.t j=false)∧Below w2.heap.size w2 wr) (fun _ _ i _=>o.t.length-(intOf i).toNat)
 case atStart=>exact⟨0,Nat.zero_le _,rfl,rfl,Below.refl _ _⟩
 case round=>
  obtain⟨j,hj,rfl,hno,hb⟩:=hrel;have HB:=hid hb;have hbs:=hb.size;by_cases hjl:j<o.t.length
  ·obtain⟨b,q,ea,hbl,x0,x1,x2,x3⟩:=g8 HT2.out hb j hjl;subst ea;have HR:=hid (g8 HT2.out hb);generalize hx:o.t.getD j default=x at*
   have HX:=hid hx;clear hx;obtain⟨xa,xk,xn,xp⟩:=x;simp only at x0 x1 x2 x3;have p0:=A7 hb hlt2 T0.out;have p2:=A7 hb hlt2 T2.out;have hne:¬w.heap.size=wr.heap.size:=by omega
   have hne2:¬b=wr.heap.size:=by omega
   have hlr:w.heap.size<wr.heap.size:=by omega
   obtain⟨Wx,hWx⟩:∃W,wr.alloc (.cells #[.int .i64 xa,.int .i64 xk,.int .i64 xn,.int .i64 xp] 150)=W:=⟨_,rfl⟩
   have BX:Hid (Below wr.heap.size wr Wx):=by rw[←hWx];exact(Below.refl _ _).alloc (Nat.le_refl _) _
   have z0:Wx.cell? ⟨wr.heap.size,0,none⟩=some (.int .i64 xa):=by rw[←hWx];simp[go_sem]
   have z1:Wx.cell? ⟨wr.heap.size,1,none⟩=some (.int .i64 xk):=by rw[←hWx];simp[go_sem]
   have z2:Wx.cell? ⟨wr.heap.size,2,none⟩=some (.int .i64 xn):=by rw[←hWx];simp[go_sem]
   have z3:Wx.cell? ⟨wr.heap.size,3,none⟩=some (.int .i64 xp):=by rw[←hWx];simp[go_sem]
   have hlx:wr.heap.size<Wx.heap.size:=by rw[←hWx];simp
   have p0x:=A7 BX.out hlr p0;have p2x:=A7 BX.out hlr p2;have C2:=hid fun W=>A2A ⟨xa,xk,xn,xp⟩ o.b.length W (by omega)
   clear hb;cases hw:U7 ⟨xa,xk,xn,xp⟩ o.b.length
   ·have HV:Hid (F7 o=1):=u6 G.out G4.out (g7 hjl (by rw[HX.out,hw];rfl));rw[hw]at C2;go_wp2_with(go_at_call 133;with_reducible refine(C2.out _).mono ?_;rintro e w3 ⟨rfl,hb3⟩)
    go_ret;exact⟨E9 HV.out.symm,B7 (B7 (B7 HB0.out (by omega) HB.out) (by omega) BX.out) (by omega) hb3⟩
   ·rw[hw]at C2;have HW:=hid hw;clear hw;have C3:Hid (∀W,Below Wx.heap.size Wx W→Calls prog 134 #[.slice (some ⟨b,q,none⟩) j ct,.func (.func 135) #[] #[.pointer (some ⟨wr.heap.size,0,none⟩)]] W fun e w'=>e= .returned (.bool ((o.t.take j).any (P2 ⟨xa,xk,xn,xp⟩)))∧Below W.heap.size W w'):=fun W hW=>
     A3h o.t (P2 ⟨xa,xk,xn,xp⟩) 135 _ eg2 j ct _ W (g8 HR.out (B7 BX.out (by omega) hW)) (by omega) ht2 (A9E ⟨xa,xk,xn,xp⟩ wr.heap.size W (Nat.lt_of_lt_of_le hlx hW.size) (A7 hW hlx z0))
    have B3:Hid (∀W W',Below Wx.heap.size Wx W→Below W.heap.size W W'→Below w2.heap.size w2 W'):=fun W W' h1 h2=>by
     have e1:=h1.size;exact B7 (B7 (B7 HB.out (by omega) BX.out) (by omega) h1) (by omega) h2
    have j0:(0:Int)≤(j:Int):=by omega
    have j1:(j:Int)≤(o.t.length:Int):=by omega
    have j2:(j:Int)≤(ct:Int):=by omega
    have j3:j≤ct:=by omega
    have hjn:(j:Int)<(o.t.length:Int):=by omega
    have hlwx:w.heap.size<Wx.heap.size:=by omega
    cases hn:(o.t.take j).any (P2 ⟨xa,xk,xn,xp⟩)
    ·rw[hn]at C3;have HN:Hid (M2 P2 o.b.length o.t (j+1)=false):=A0W hno.out (by rw[HX.out,HW.out,hn];rfl);clear hn;go_wp2_with(first|(go_at_call 133;with_reducible refine(C2.out _).mono ?_;rintro e w3 ⟨rfl,hb3⟩;have p3:=A7 hb3 hlwx p2x;have HB3:=hid hb3;clear hb3)|(go_at_call 134;with_reducible refine(C3.out _ HB3.out).mono ?_;rintro e w4 ⟨rfl,hb4⟩))
     go_roundw
     case rel=>exact⟨j+1,by omega,by go_num,HN.out,B3.out _ _ HB3.out hb4⟩
     case measure=>simp[intOf];omega
    ·rw[hn]at C3;have HV:Hid (F7 o=1):=u6 G.out G4.out (g7 hjl (by rw[HX.out,hn];simp));clear hn;go_wp2_with(first|(go_at_call 133;with_reducible refine(C2.out _).mono ?_;rintro e w3 ⟨rfl,hb3⟩;have p3:=A7 hb3 hlwx p2x;have HB3:=hid hb3;clear hb3)|(go_at_call 134;with_reducible refine(C3.out _ HB3.out).mono ?_;rintro e w4 ⟨rfl,hb4⟩))
     go_ret;exact⟨E9 HV.out.symm,B7 HB0.out (by omega) (B3.out _ _ HB3.out hb4)⟩
  ·obtain rfl:j=o.t.length:=by omega
   have HW:=hid hno.out;have p1:=A7 hb hlt2 T1.out;have HB1:Hid (Below w.heap.size w wr):=B7 HB0.out (by omega) HB.out;have HS1:=hid (Z5 HS2.out hb);have hlr:w.heap.size<wr.heap.size:=by omega
   obtain⟨wo,rfl⟩:∃wo:World,wo=wr:=⟨_,rfl⟩
   have P1:=hid p1;clear hb hbs HB HT2 HS2 HB0 hlt2 hno T0 T2 T1;go_wp2_with fail
   clear p1
   go_loopw[5,6,51] (fun _ _ i wr=>∃j:Nat,j≤o.s.length∧i= .int .i64 j∧Hid (P4 o.s j=false)∧Below wo.heap.size wo wr) (fun _ _ i _=>o.s.length-(intOf i).toNat)
   case atStart=>exact⟨0,Nat.zero_le _,rfl,rfl,Below.refl _ _⟩
   case round=>
    obtain⟨j,hj,rfl,hno,hb⟩:=hrel;have HB:=hid hb;have hbs:=hb.size;by_cases hjl:j<o.s.length
    ·obtain⟨b,q,ea,hbl,x0,x1⟩:=Z5 HS1.out hb j hjl;subst ea;have HR:=hid (Z5 HS1.out hb);generalize hx:o.s.getD j default=x at*
     have HX:=hid hx;clear hx;obtain⟨xn,xa⟩:=x;simp only at x0 x1;have p1:=A7 hb hlr P1.out;have hne:¬w.heap.size=wr.heap.size:=by omega
     have hne2:¬b=wr.heap.size:=by omega
     obtain⟨Wx,hWx⟩:∃W,wr.alloc (.cells #[.int .i64 xn,.int .i64 xa] 40)=W:=⟨_,rfl⟩
     have BX:Hid (Below wr.heap.size wr Wx):=by rw[←hWx];exact(Below.refl _ _).alloc (Nat.le_refl _) _
     have z0:Wx.cell? ⟨wr.heap.size,0,none⟩=some (.int .i64 xn):=by rw[←hWx];simp[go_sem]
     have hlx:wr.heap.size<Wx.heap.size:=by rw[←hWx];simp
     have p1x:=A7 BX.out (by omega) p1;clear hb;have C3:Hid (Calls prog 130 #[.slice (some ⟨b,q,none⟩) j cs,.func (.func 136) #[] #[.pointer (some ⟨wr.heap.size,0,none⟩)]] Wx fun e w'=>e= .returned (.bool ((o.s.take j).any fun y=>xn==y.n))∧Below Wx.heap.size Wx w'):=
      r8 o.s (fun y=>xn==y.n) 136 _ eg3 j cs _ Wx (Z5 HR.out BX.out) (by omega) hs2 (A9D ⟨xn,xa⟩ wr.heap.size Wx hlx z0)
     have B3:Hid (∀W',Below Wx.heap.size Wx W'→Below wo.heap.size wo W'):=fun W' h1=>B7 (B7 HB.out (by omega) BX.out) (by omega) h1
     have j0:(0:Int)≤(j:Int):=by omega
     have j1:(j:Int)≤(o.s.length:Int):=by omega
     have j2:(j:Int)≤(cs:Int):=by omega
     have j3:j≤cs:=by omega
     have hjn:(j:Int)<(o.s.length:Int):=by omega
     cases hn:(o.s.take j).any fun y=>xn==y.n
     ·rw[hn]at C3;have HN:Hid (P4 o.s (j+1)=false):=A0Y hno.out (by rw[HX.out];exact hn);clear hn;go_wp2_with(go_at_call 130;with_reducible refine C3.out.mono ?_;rintro e w4 ⟨rfl,hb4⟩)
      go_roundw
      case rel=>exact⟨j+1,by omega,by go_num,HN.out,B3.out _ hb4⟩
      case measure=>simp[intOf];omega
     ·rw[hn]at C3;have HV:Hid (F7 o=7):=A7A G.out G4.out HW.out (A1e hjl (by rw[HX.out];exact hn));clear hn;go_wp2_with(go_at_call 130;with_reducible refine C3.out.mono ?_;rintro e w4 ⟨rfl,hb4⟩)
      go_ret;exact⟨E9 HV.out.symm,B7 HB1.out (by omega) (B3.out _ hb4)⟩
    ·obtain rfl:j=o.s.length:=by omega
     have HV:Hid (F7 o=0):=A7B G.out G4.out HW.out hno.out;go_wp2_with fail
     go_ret;exact⟨E9 HV.out.symm,B7 HB1.out (by omega) HB.out⟩
theorem T7{α:Type}[Inhabited α]{f:α→Bool}{s:List α}{j:Nat}(hj:j<s.length)(h0:(s.take j).any f=false)(h:f (s.getD j default)=false):(s.take (j+1)).any f=false:=by
 rw[List.take_add_one,List.any_append,h0,List.getElem?_eq_getElem hj];rw[List.getD_eq_getElem?_getD,List.getElem?_eq_getElem hj]at h;simpa using h
theorem A0K{α:Type}[Inhabited α]{f:α→Bool}{s:List α}{j n:Nat}(hj:j<s.length)(hn:j<n)(h:f (s.getD j default)=true):(s.take n).any f=true:=by
 rw[List.getD_eq_getElem?_getD,List.getElem?_eq_getElem hj]at h;refine List.any_eq_true.2 ⟨s[j],?_,h⟩;rw[List.mem_take_iff_getElem];exact⟨j,by omega,rfl⟩
end Go.Proofs.YtajljbmeaeeknaaGreat
