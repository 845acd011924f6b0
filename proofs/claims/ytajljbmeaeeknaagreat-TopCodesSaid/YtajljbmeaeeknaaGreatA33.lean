/- -/
import Derived.Test.YtajljbmeaeeknaaGreatRows
import Derived.WalkKit
import Derived.ProofKit
import Derived.OpenShut
import Derived.Below
import Derived.ChangeSame
import Derived.Lib.SmallJoins
import Derived.Deep.Slices
import Derived.SizedLaws
import Derived.DataReads
import Derived.ChangeSlices
import Derived.Test.YtajljbmeaeeknaaGreatA1
import Derived.Test.YtajljbmeaeeknaaGreatA2
import Derived.Test.YtajljbmeaeeknaaGreatA21
import Derived.Test.YtajljbmeaeeknaaGreatA32
open Go.Proofs.Tryz
namespace Go.Proofs.YtajljbmeaeeknaaGreat
open Go.RowKit Go.Maps
set_option linter.unusedVariables false
set_option linter.unusedSimpArgs false
def A2D(x:Ins):Rv:=⟨x.o,x.d,x.s,x.z,x.i⟩
theorem B0w{w:World}{v:Value}{ts:List Ins}(h:Ias w v ts):Rvs w v (ts.map A2D):=by
 obtain⟨a,c,e,h1,h2,h3,h4⟩:=h;refine⟨a,c,by rw[List.length_map];exact e,by rw[List.length_map];exact h1,by rw[List.length_map];exact h2,h3,fun i hi=>?_⟩;rw[List.length_map]at hi;obtain⟨b,q,g1,g2,g3⟩:=h4 i hi;have e1:(ts.map A2D).getD i default=A2D (ts.getD i default):=by
  rw[List.getD_eq_getElem?_getD,List.getD_eq_getElem?_getD,List.getElem?_map,List.getElem?_eq_getElem hi];rfl
 refine⟨b,q,g1,g2,?_⟩;show B3A w b (q+i*5) ((ts.map A2D).getD i default)
 rw[e1];exact g3
end Go.Proofs.YtajljbmeaeeknaaGreat
namespace Go.Proofs.YtajljbmeaeeknaaGreat
open Go.RowKit Go.WideShapes Go.ChangeShapes
section
variable {H : Type} {enc : TypeId × Value → H} {P : Program}
theorem Z6(hl:laidOutB P=true){W W':World}(hb:Below W.heap.size W W')(sp:Nat→Bool):∀(ts:List TypeId) (vs:List Value) (ds:List (DataW H)) (ps:List MemPlace),
  (∀t∈ts,P.readableRec t=true∧t<P.types.size)→DataW.TrodAll enc P W 0 (fun _=>true) true ts vs ds ps→(∀x∈ps,x.block<W.heap.size)→(∀p∈ps,sp p.block=true)→DataW.TrodAll enc P W' 0 sp true ts vs ds ps
 |[],vs,ds,ps,_,h,_,_=>by
  obtain⟨rfl,rfl,rfl⟩:=trodAll_nil h;exact trodAll_mk0
 |t::ts,vs,ds,ps,ht,h,hlt,hsp=>by
  obtain⟨v,vs',d,ds',p,q,rfl,rfl,rfl,h1,h2⟩:=trodAll_cons h;have h3:=ht t (List.mem_cons_self ..);exact trodAll_cons_mk (WideElems.Trod_stays hl h3.1 h3.2 h1 (fun x hx=>hb.same (hlt x (List.mem_append.2 (.inl hx)))) (fun x hx=>hsp x (List.mem_append.2 (.inl hx))))
   (Z6 hl hb sp ts vs' ds' q (fun t' h'=>ht t' (List.mem_cons_of_mem _ h')) h2 (fun x hx=>hlt x (List.mem_append.2 (.inr hx))) (fun x hx=>hsp x (List.mem_append.2 (.inr hx))))
theorem A3F{f:Func}{s:ChangeSpec}{apart fresh handsOn again:Bool}{W W':World}{args:Array Value}{v:Value}{ds gs:List (DataW H)}{before pa pv:List MemPlace}
  (hW:DataW.Whole enc P f.params.toList s.vars apart W args.toList ds gs before)
  (hres:∀(b:Nat) (sp:Nat→Bool) (hd:Bool),DataW.TrodAll enc P W' b sp hd f.resultTypes.toList (v.resultList f.resultTypes.size) (s.fn H (ds++gs)).results [])
  (hargs:∀sp:Nat→Bool,(∀p∈before,sp p.block=true)→DataW.TrodAll enc P W' 0 sp true f.params.toList args.toList (s.fn H (ds++gs)).args pa)
  (hvars:∀sp:Nat→Bool,(∀p∈before,sp p.block=true)→DataW.TrodVars enc P W' sp s.vars (s.fn H (ds++gs)).vars pv)
  (hps:before=pa++pv) (hb:Below W.heap.size W W')
  (hok:∀(j:Nat) (t:TypeId) (r:Value),f.resultTypes[j]? =some t→(v.resultList f.resultTypes.size)[j]? =some r→Value.okWide P W' .any 0 t r):
  s.post enc P f apart fresh handsOn again W args v W':=by
 have hlt:∀p∈before,p.block<W.heap.size:=fun p hp=>hW.lt p hp
 have hold:∀p∈before,(fun b=>decide (b<W.heap.size)) p.block=true:=fun p hp=>by simpa using hlt p hp
 refine⟨ds,gs,before,[],pa,pv,hW,hres _ _ _,hargs _ hold,hvars _ hold,World.keptBut_mono (fun p hp=>⟨hp,?_⟩) (hb.frame (·∈before)),fun _=>?_⟩
 ·rw[hps,List.mem_append]at hp;exact Or.inr hp
 ·obtain⟨_,_,_,_,_,hz,hn⟩:=hW;refine⟨hok,_,_,([]++pa)++pv,⟨[]++pa,pv,trodAll_append (hargs _ (fun _ _=>rfl)) (hres _ _ _),hvars _ (fun _ _=>rfl),rfl,?_,?_⟩,?_⟩
  ·intro b off hp;have hin:MemPlace.cell b off∈before:=by rw[hps];simpa using hp
   rw[hb.frozen (hlt _ hin)];exact hz b off hin
  ·intro ha;have:=hn ha;rw[hps]at this;simpa using this
  ·intro p hp _;rw[hps];simpa using hp
theorem A6O{f:Func}{s:ChangeSpec}{apart fresh handsOn again:Bool}{W W':World}{args:Array Value}{ds gs:List (DataW H)}{before:List MemPlace}{tb:TypeId}
  (hl:laidOutB P=true) (hts:∀t∈f.params.toList,P.readableRec t=true∧t<P.types.size) (hres:f.resultTypes=#[tb]) (htb:P.underlying tb=some .bool) (hv:s.vars=[])
  (hW:DataW.Whole enc P f.params.toList s.vars apart W args.toList ds gs before) (hfn:s.fn H (ds++gs)={results:=[.lit (.bool true)],args:=ds}) (hb:Below W.heap.size W W'):
  s.post enc P f apart fresh handsOn again W args (.bool true) W':=by
 have hW2:=hW;obtain⟨p,q,hA,hV,rfl,_,_⟩:=hW2;rw[hv]at hV;obtain⟨rfl,rfl⟩:=trodVars_none hV;refine A3F (pa:=p) (pv:=[]) hW (fun b sp hd=>?_) (fun sp hsp=>?_) (fun sp _=>?_) rfl hb (ok_one hres rfl (okWide_bool_mk htb _))
 ·rw[hfn,hres];exact trodAll_mk1 (shut_bool htb _)
 ·rw[hfn];exact Z6 hl hb sp _ _ _ _ hts hA (fun x hx=>hW.lt x (List.mem_append.2 (.inl hx))) (fun x hx=>hsp x (List.mem_append.2 (.inl hx)))
 ·rw[hfn,hv]
  trivial
end
end Go.Proofs.YtajljbmeaeeknaaGreat
namespace Go.Proofs.YtajljbmeaeeknaaGreat
open Go.RowKit Go.WideShapes Go.ChangeShapes Go.Deep
set_option linter.unusedVariables false
set_option linter.unusedSimpArgs false
section
variable {H : Type} {enc : TypeId × Value → H} {P : Program} {W : World} {base : Nat} {held : Bool}
def A2r(k:IntKind)(x:Int):Prop:=(Lit.int k x).wf=true
theorem s6{t e:TypeId}{elems spare:List (DataW H)}(ht:P.underlying t=some (.slice e))(hb:1≤P.bytesOf e)(hw:∀n∈(DataW.slice elems spare).weights P t,n≤reachBytes):elems.length+spare.length≤140737488351232:=by
 have h:=hw ((elems.length+spare.length)*P.bytesOf e) (by simp[DataW.weights,ht]);have h2:elems.length+spare.length≤(elems.length+spare.length)*P.bytesOf e:=Nat.le_mul_of_pos_right _ hb;unfold reachBytes at h;omega
theorem B3J{t e:TypeId}{k:IntKind}{fuel:Nat}{cs:List Value}{d:DataW H}{ps:List MemPlace}(ht:P.underlying t=some (.slice e))(he:P.underlying e=some (.int k))(hc:P.cellsOf e=1)(hby:1≤P.bytesOf e)
  (h:DataW.trod enc P W base (fun _=>true) held fuel t cs=some (d,ps)) (hw:∀n∈d.weights P t,n≤reachBytes):∃v xs,cs=[v]∧Ints k W v xs∧∀x∈xs,A2r k x:=by
 rcases open_ints ht he hc h with⟨rfl,hx⟩|⟨a,len,cap,zs,rfl,hb,hl,hm,hz,hx,hcell,hwf⟩
 ·exact⟨_,[],rfl,⟨none,0,rfl,Nat.le_refl _,⟨by simp,by omega⟩,fun _=>rfl,fun i hi=>absurd hi (by simp)⟩,fun x hx=>by cases hx⟩
 ·simp only[if_true]at hz;simp only[Prod.mk.injEq]at hx;have hcap:cap≤140737488351232:=by
   rw[hx.1]at hw;have:=s6 ht hby hw;simp[lits]at this;omega
  have hlen:(zs.take len).length=len:=by rw[List.length_take];omega
  refine⟨_,zs.take len,rfl,⟨some a,cap,by rw[hlen],by omega,⟨by omega,by unfold maxLen at hm;omega⟩,(fun hh=>by cases hh),fun i hi=>?_⟩,fun x hx=>hwf x (List.mem_of_mem_take hx)⟩;rw[hlen]at hi;have hc0:=hcell i (by omega);have hs:=World.cell?_spot hc0;obtain⟨b,o,s⟩:=a;have hsp:s=none:=by
   by_cases e0:i=0
   ·subst e0;exact World.cell?_spot (hcell 0 (by omega))
   ·exact World.cell?_spot (hcell 0 (by omega))
  subst hsp;have e1:(⟨b,o,none⟩:Addr).add i=⟨b,o+i,none⟩:=by
   unfold Addr.add;by_cases e0:i=0
   ·rw[if_pos e0,e0];rfl
   ·rw[if_neg e0]
  rw[e1]at hc0;refine⟨b,o,rfl,F9 hc0,?_⟩;show W.cell? ⟨b,o+i*1,none⟩=_
  rw[Nat.mul_one,hc0,List.getD_eq_getElem?_getD,List.getD_eq_getElem?_getD,List.getElem?_take,if_pos hi]
theorem A9v(b o i j:Nat):((⟨b,o,none⟩:Addr).add i).add j=⟨b,o+i+j,none⟩:=by
 have e:∀(o i:Nat),(⟨b,o,none⟩:Addr).add i=⟨b,o+i,none⟩:=by
  intro o i;unfold Addr.add;by_cases e0:i=0
  ·rw[if_pos e0,e0];rfl
  ·rw[if_neg e0]
 rw[e,e]
theorem U8{fs:Array Field}{t:TypeId}{parts:List (DataW H)}(ht:P.underlying t=some (.struct fs)){i:Nat}{f:Field}{d:DataW H}(hf:fs[i]? =some f)(hd:parts[i]? =some d){n:Nat}(hn:n∈d.weights P f.type):n∈(DataW.agg parts).weights P t:=by
 have h1:(fs.toList.map (·.type))[i]? =some f.type:=by rw[List.getElem?_map];simp[hf]
 have:=DataW.weights_mem_each h1 hd n hn;simpa[DataW.weights,ht]using this
structure NodeTy(P:Program)(e ei:TypeId)(f0 f1 f2 f3 f4:Field):Prop where
 st:P.underlying e=some (.struct #[f0,f1,f2,f3,f4])
 o:f0.offset=0∧f1.offset=1∧f2.offset=2∧f3.offset=3∧f4.offset=4
 u0:P.underlying f0.type=some (.int .i64)
 u1:P.underlying f1.type=some (.int .i64)
 u2:P.underlying f2.type=some (.int .i64)
 u3:P.underlying f3.type=some (.slice ei)
 u4:P.underlying f4.type=some (.int .u32)
 ui:P.underlying ei=some (.int .i64)
 c:P.cellsOf f0.type=1∧P.cellsOf f1.type=1∧P.cellsOf f2.type=1∧P.cellsOf f3.type=1∧P.cellsOf f4.type=1∧P.cellsOf ei=1∧P.cellsOf e=5
 b:1≤P.bytesOf ei
theorem A0E{x:Int}(h:A2r .i64 x): -9223372036854775808≤x∧x≤9223372036854775807:=by simpa[A2r,Lit.wf,IntKind.min,IntKind.max,IntKind.signed,IntKind.bits]using h
end
end Go.Proofs.YtajljbmeaeeknaaGreat
namespace Go.Proofs.YtajljbmeaeeknaaGreat
open Go.RowKit Go.WideShapes Go.ChangeShapes Go.Deep
set_option linter.unusedVariables false
set_option linter.unusedSimpArgs false
section
variable {H : Type} {enc : TypeId × Value → H} {P : Program} {W : World} {base : Nat} {held : Bool}
structure InsTy(P:Program)(e:TypeId)(f0 f1 f2 f3 f4:Field):Prop where
 st:P.underlying e=some (.struct #[f0,f1,f2,f3,f4])
 o:f0.offset=0∧f1.offset=1∧f2.offset=2∧f3.offset=3∧f4.offset=4
 u0:P.underlying f0.type=some (.int .i64)
 u1:P.underlying f1.type=some (.int .i64)
 u2:P.underlying f2.type=some (.int .i64)
 u3:P.underlying f3.type=some (.int .i64)
 u4:P.underlying f4.type=some (.int .i64)
 c:P.cellsOf f0.type=1∧P.cellsOf f1.type=1∧P.cellsOf f2.type=1∧P.cellsOf f3.type=1∧P.cellsOf f4.type=1∧P.cellsOf e=5
theorem B0y{e:TypeId}{f0 f1 f2 f3 f4:Field}(T:InsTy P e f0 f1 f2 f3 f4){fuel b o:Nat}{cs:List Value}{d:DataW H}{ps:List MemPlace}
  (hcs:∀i,i<5→W.cell? ⟨b,o+i,none⟩=cs[i]?) (hl:cs.length=5) (h:DataW.trod enc P W base (fun _=>true) held fuel e cs=some (d,ps)):
  ∃x:Ins,A7m W b o x∧I64 x.i:=by
 obtain⟨xs,n,_,hx,_,hn,hf⟩:=DataW.trod_struct T.st h;obtain⟨o0,o1,o2,o3,o4⟩:=T.o;obtain⟨k0,k1,k2,k3,k4,ke⟩:=T.c
 match cs,hl with
 |[v0,v1,v2,v3,v4],_=>
 match xs,hn with
 |[y0,y1,y2,y3,y4],_=>
 have g0:=hf 0 f0 rfl;have g1:=hf 1 f1 rfl;have g2:=hf 2 f2 rfl;have g3:=hf 3 f3 rfl;have g4:=hf 4 f4 rfl;rw[o0,k0]at g0;rw[o1,k1]at g1;rw[o2,k2]at g2;rw[o3,k3]at g3;rw[o4,k4]at g4;obtain⟨n0,a0,_,w0⟩:=DataW.trod_int T.u0 (show DataW.trod enc P W base (fun _=>true) held n f0.type [v0]=some y0 from g0);obtain⟨n1,a1,_,w1⟩:=DataW.trod_int T.u1 (show DataW.trod enc P W base (fun _=>true) held n f1.type [v1]=some y1 from g1);obtain⟨n2,a2,_,w2⟩:=DataW.trod_int T.u2 (show DataW.trod enc P W base (fun _=>true) held n f2.type [v2]=some y2 from g2);obtain⟨n3,a3,_,w3⟩:=DataW.trod_int T.u3 (show DataW.trod enc P W base (fun _=>true) held n f3.type [v3]=some y3 from g3);obtain⟨n4,a4,_,w4⟩:=DataW.trod_int T.u4 (show DataW.trod enc P W base (fun _=>true) held n f4.type [v4]=some y4 from g4);cases a0;cases a1;cases a2;cases a3;cases a4;exact⟨⟨n0,n1,n2,n3,n4⟩,⟨hcs 0 (by omega),hcs 1 (by omega),hcs 2 (by omega),hcs 3 (by omega),hcs 4 (by omega)⟩,A0E w4⟩
theorem B0A{t e:TypeId}{f0 f1 f2 f3 f4:Field}(ht:P.underlying t=some (.slice e))(T:InsTy P e f0 f1 f2 f3 f4)(hby:1≤P.bytesOf e){fuel:Nat}{cs:List Value}{d:DataW H}{ps:List MemPlace}
  (h:DataW.trod enc P W base (fun _=>true) held fuel t cs=some (d,ps)) (hw:∀n∈d.weights P t,n≤reachBytes):
  ∃v ts,cs=[v]∧Ias W v ts∧∀x∈ts,I64 x.i:=by
 rcases open_slice ht h with⟨rfl,hx⟩|⟨a,len,cap,m,n,D,Pl,rfl,hb,hl,hm,hmm,hx,hel⟩
 ·exact⟨_,[],rfl,⟨none,0,rfl,Nat.le_refl _,⟨by simp,by omega⟩,fun _=>rfl,fun i hi=>absurd hi (by simp)⟩,fun x hx=>by cases hx⟩
 ·simp only[if_true]at hmm;subst hmm;simp only[Prod.mk.injEq]at hx;obtain⟨hd,_⟩:=hx;have hcap:m≤140737488351232:=by
   rw[hd]at hw;have:=s6 ht hby hw;simp at this;omega
  obtain⟨_,_,_,_,_,ke⟩:=T.c;by_cases hz:len=0
  ·subst hz;exact⟨_,[],rfl,⟨some a,m,rfl,by omega,⟨by simp,by omega⟩,(fun hh=>by cases hh),fun i hi=>absurd hi (by simp)⟩,fun x hx=>by cases hx⟩
  have hsp:a.spot=none:=by
   obtain⟨cs',h1,_⟩:=hel 0 (by omega);rw[ke]at h1;obtain⟨_,hl5,hg⟩:=World.cells?_some h1;have h0:=hg 0 (by omega);have e0:(a.add (0*5)).add 0=a:=by simp[Addr.add]
   rw[e0,List.getElem?_eq_getElem (by omega)]at h0;exact World.cell?_spot h0
  obtain⟨b,o,s⟩:=a;simp only at hsp;subst hsp;obtain⟨V,hV⟩:=choose_lt (α:=Ins) (n:=len) (p:=fun i x=>A7m W b (o+i*5) x∧I64 x.i) (fun i hi=>by
   obtain⟨cs',h1,h2⟩:=hel i (by omega);rw[ke]at h1;obtain⟨_,hl5,hg⟩:=World.cells?_some h1;exact B0y T (fun j hj=>by rw[←A9v b o (i*5) j];exact hg j hj) hl5 h2)
  have hlen:((List.range len).map V).length=len:=by simp
  have hget:∀i,i<len→((List.range len).map V).getD i default=V i:=fun i hi=>by
   rw[List.getD_eq_getElem?_getD,List.getElem?_map,List.getElem?_range hi];rfl
  refine⟨_,(List.range len).map V,rfl,⟨some ⟨b,o,none⟩,m,by rw[hlen],by omega,⟨by omega,by omega⟩,(fun hh=>by cases hh),fun i hi=>?_⟩,fun x hx=>?_⟩
  ·rw[hlen]at hi;refine⟨b,o,rfl,F9 (hV i hi).1.1,?_⟩;show A7m W b (o+i*5) _
   rw[hget i hi];exact(hV i hi).1
  ·obtain⟨i,hi,rfl⟩:=List.mem_map.1 hx;exact(hV i (List.mem_range.1 hi)).2
end
end Go.Proofs.YtajljbmeaeeknaaGreat
namespace Go.Proofs.YtajljbmeaeeknaaGreat
open Go.RowKit Go.WideShapes Go.ChangeShapes Go.Deep
set_option linter.unusedVariables false
set_option linter.unusedSimpArgs false
theorem A3Q{l:List Int}(h:∀x∈l,A2r .u8 x):Byt l:=fun k=>by
 rcases Nat.lt_or_ge k l.length with hk|hk
 ·rw[List.getD_eq_getElem?_getD,List.getElem?_eq_getElem hk];have:0≤l[k]∧l[k]≤255:=by simpa[A2r,Lit.wf,IntKind.min,IntKind.max,IntKind.signed,IntKind.bits]using h _ (List.getElem_mem hk)
  show 0≤l[k]∧l[k]<256
  omega
 ·rw[List.getD_eq_getElem?_getD,List.getElem?_eq_none hk];decide
section
variable {H : Type} {enc : TypeId × Value → H} {P : Program} {W : World} {base : Nat} {held : Bool}
theorem j8{α:Type}{l:List α}{k:Nat}{v:α}(h:(l.drop k).take 1=[v]):l[k]? =some v:=by
 have:=congrArg (fun l:List α=>l[0]?) h;simpa[List.getElem?_take,List.getElem?_drop]using this
structure MacTy(P:Program)(e er eb:TypeId)(f0 f1 f2 f3 f4:Field):Prop where
 st:P.underlying e=some (.struct #[f0,f1,f2,f3,f4])
 o:f0.offset=0∧f1.offset=32∧f2.offset=33∧f3.offset=34∧f4.offset=35
 u0:P.underlying f0.type=some (.array 32 er)
 ur:P.underlying er=some (.int .u32)
 u1:P.underlying f1.type=some (.int .i64)
 u2:P.underlying f2.type=some (.int .u32)
 u3:P.underlying f3.type=some (.slice eb)
 ub:P.underlying eb=some (.int .u8)
 u4:P.underlying f4.type=some (.int .i64)
 c:P.cellsOf f0.type=32∧P.cellsOf f1.type=1∧P.cellsOf f2.type=1∧P.cellsOf f3.type=1∧P.cellsOf f4.type=1∧P.cellsOf e=36
 ce:P.cellsOf er=1∧P.cellsOf eb=1
 b:1≤P.bytesOf eb
theorem A0c{x:Int}(h:(Lit.int .u32 x).wf=true):0≤x∧x<4294967296:=by
 have:=bounds_u32 h;omega
theorem B3I{e er eb:TypeId}{f0 f1 f2 f3 f4:Field}(T:MacTy P e er eb f0 f1 f2 f3 f4){r:Reach}{b0:Nat}{v:Value}{d:DataW H}{p:List MemPlace}(hv:Value.okWide P W r b0 e v)(h:DataW.Trod enc P W base (fun _=>true) held e v d p)(hw:∀n∈d.weights P e,n≤reachBytes):
  ∃(c:Mac) (mv:Value),v= .agg (B4 c mv).toArray∧c.r.length=32∧(∀k,0≤c.r.getD k 0∧c.r.getD k 0<4294967296)∧(-9223372036854775808≤c.f∧c.f≤9223372036854775807)∧(0≤c.a∧c.a<4294967296)∧(-9223372036854775808≤c.e∧c.e≤9223372036854775807)∧Ints .u8 W mv c.m∧Byt c.m:=by
 obtain⟨cs,rfl,hsz⟩:=okWide_struct T.st hv;obtain⟨fuel,hf⟩:=h;obtain⟨l⟩:=cs;have hf1:DataW.trod enc P W base (fun _=>true) held fuel e l=some (d,p):=hf;obtain⟨o0,o1,o2,o3,o4⟩:=T.o;obtain⟨k0,k1,k2,k3,k4,ke⟩:=T.c;obtain⟨kr,kb⟩:=T.ce;have hl:l.length=36:=by rw[←ke];simpa using hsz
 obtain⟨xs,n,_,hx,_,hn,hg⟩:=DataW.trod_struct T.st hf1
 match xs,hn with
 |[y0,y1,y2,y3,y4],_=>
 have g0:=hg 0 f0 rfl;have g1:=hg 1 f1 rfl;have g2:=hg 2 f2 rfl;have g3:=hg 3 f3 rfl;have g4:=hg 4 f4 rfl;rw[o0,k0]at g0;rw[o1,k1]at g1;rw[o2,k2]at g2;rw[o3,k3]at g3;rw[o4,k4]at g4;obtain⟨ys,m,_,_,_,hy,hr⟩:=DataW.trod_array T.u0 (show DataW.trod enc P W base (fun _=>true) held n f0.type ((l.drop 0).take 32)=some y0 from g0);obtain⟨n1,a1,_,w1⟩:=DataW.trod_int T.u1 (show DataW.trod enc P W base (fun _=>true) held n f1.type ((l.drop 32).take 1)=some y1 from g1);obtain⟨n2,a2,_,w2⟩:=DataW.trod_int T.u2 (show DataW.trod enc P W base (fun _=>true) held n f2.type ((l.drop 33).take 1)=some y2 from g2);obtain⟨n4,a4,_,w4⟩:=DataW.trod_int T.u4 (show DataW.trod enc P W base (fun _=>true) held n f4.type ((l.drop 35).take 1)=some y4 from g4);obtain⟨d3,p3⟩:=y3;simp only[Prod.mk.injEq]at hx;have hw3:∀n∈d3.weights P f3.type,n≤reachBytes:=fun n hn=>hw n (by rw[hx.1];exact U8 T.st (i:=3) (f:=f3) rfl rfl hn)
 obtain⟨mv,ms,a3,hi3,hwf3⟩:=B3J T.u3 T.ub kb T.b (show DataW.trod enc P W base (fun _=>true) held n f3.type ((l.drop 34).take 1)=some (d3,p3)from g3) hw3;obtain⟨V,hV⟩:=choose_lt (α:=Int) (n:=32) (p:=fun i x=>l[i]? =some (.int .u32 x)∧(Lit.int .u32 x).wf=true) (fun i hi=>by
  have hri:=hr i hi;rw[kr]at hri;obtain⟨y,hy⟩:∃y,ys[i]? =some y:=⟨_,List.getElem?_eq_getElem (by omega)⟩
  rw[hy]at hri;obtain⟨z,az,_,wz⟩:=DataW.trod_int T.ur hri;have:=j8 az;rw[List.getElem?_take,if_pos (by omega)]at this;simp only[Nat.mul_one]at this;exact⟨z,by simpa using this,wz⟩)
 have hml:((List.range 32).map V).length=32:=by simp
 refine⟨⟨(List.range 32).map V,n1,n2,ms,n4⟩,mv,?_,hml,fun k=>?_,A0E w1,A0c w2,A0E w4,hi3,A3Q hwf3⟩
 ·refine congrArg (fun l:List Value=>Value.agg l.toArray) (List.ext_getElem? fun i=>?_);show l[i]? =(((List.range 32).map V).map (Value.int .u32)++[.int .i64 n1,.int .u32 n2,mv,.int .i64 n4])[i]?
  by_cases hi:i<32
  ·rw[(hV i hi).1,List.getElem?_append_left (by simpa using hi),List.getElem?_map,List.getElem?_map,List.getElem?_range hi];rfl
  ·rw[List.getElem?_append_right (by simpa using hi)];simp only[List.length_map,List.length_range];by_cases h1:i=32
   ·subst h1;exact j8 a1
   by_cases h2:i=33
   ·subst h2;exact j8 a2
   by_cases h3:i=34
   ·subst h3;exact j8 a3
   by_cases h4:i=35
   ·subst h4;exact j8 a4
   rw[List.getElem?_eq_none (by omega),List.getElem?_eq_none (by simp;omega)]
 ·show 0≤((List.range 32).map V).getD k 0∧_
  by_cases hk:k<32
  ·rw[List.getD_eq_getElem?_getD,List.getElem?_map,List.getElem?_range hk];exact A0c (hV k hk).2
  ·rw[List.getD_eq_getElem?_getD,List.getElem?_eq_none (by simp;omega)];exact⟨by decide,by decide⟩
end
end Go.Proofs.YtajljbmeaeeknaaGreat
