/- -/
import Derived.Laws.IdiomCopy
import Derived.Laws.OwnMore
import Derived.Test.YtajljbmeaeeknaaGreatS4
import Derived.Test.YtajljbmeaeeknaaGreatS20
import Derived.Test.YtajljbmeaeeknaaGreatS22
open Go.Proofs.Tryz
namespace Go.Proofs.YtajljbmeaeeknaaGreat
open Go.RowKit Go.Maps
set_option linter.unusedVariables false
set_option linter.unusedSimpArgs false
def O7(out:List Int)(q:Nat):List Int→List Int
 |[]=>out
 |b::l=>O7 (out.set q b) (q+1) l
theorem Q9:∀(l out:List Int) (q:Nat),(O7 out q l).length=out.length
 |[],_,_=>rfl
 |b::l,out,q=>by rw[O7,Q9 l];simp
def k9(n:Int)(k:Nat):Int:=n / 2^(8*k)%256
def A0b(out:List Int)(q:Nat)(n:Int):Nat→List Int
 |0=>out
 |c+1=>(A0b out q n c).set (q+c) (k9 n c)
theorem R0(out:List Int)(q:Nat)(n:Int):∀c,(A0b out q n c).length=out.length
 |0=>rfl
 |c+1=>by rw[A0b,List.length_set,R0 out q n c]
def A0a(out:List Int)(q:Nat)(n:Int):List Int:=A0b out q n 4
theorem v8(out:List Int)(q:Nat)(n:Int):(A0a out q n).length=out.length:=R0 out q n 4
def Y9(base:Int)(m:List (Int×Int))(p:Int)(x:Wn):Int:=if x.k=1 then(K7 m x.n).getD 0+x.p-(base+(p+x.a)+4)else(K7 m x.n).getD 0+x.p
def M3(base:Int)(m:List (Int×Int))(p:Int)(out:List Int)(t:List Wn):List Int:=t.foldl (fun out x=>A0a out (p+x.a).toNat (Y9 base m p x)) out
theorem O2(base:Int)(m:List (Int×Int))(p:Int):∀(t:List Wn) (out:List Int),(M3 base m p out t).length=out.length
 |[],_=>rfl
 |x::t,out=>by
  have:=O2 base m p t (A0a out (p+x.a).toNat (Y9 base m p x));unfold M3 at this⊢;rw[List.foldl_cons,this,v8]
theorem A0X{base:Int}{m:List (Int×Int)}{p:Int}{out:List Int}{t:List Wn}{k:Nat}(hk:k<t.length):M3 base m p out (t.take (k+1))=A0a (M3 base m p out (t.take k)) (p+(t.getD k default).a).toNat (Y9 base m p (t.getD k default)):=by
 unfold M3;rw[List.take_succ_eq_append_getElem hk,List.foldl_append,List.getD_eq_getElem?_getD,List.getElem?_eq_getElem hk];rfl
def A5w(base:Int)(m:List (Int×Int))(p:Int)(out:List Int)(o:Ob):List Int:=M3 base m p (O7 out p.toNat o.b) o.t
def K8(base:Int)(l:List Ob)(st:Im)(j:Nat):List Int:=(List.range j).foldl (fun out i=>A5w base st.m (st.p.getD i 0) out (l.getD i default)) (List.replicate st.z.toNat 0)
theorem j6(base:Int)(l:List Ob)(st:Im)(j:Nat):K8 base l st (j+1)=A5w base st.m (st.p.getD j 0) (K8 base l st j) (l.getD j default):=by
 unfold K8;rw[List.range_succ,List.foldl_append];rfl
theorem M6(base:Int)(l:List Ob)(st:Im):∀j,(K8 base l st j).length=st.z.toNat
 |0=>by simp[K8]
 |j+1=>by rw[j6,A5w,O2,Q9,M6 base l st j]
def Q1(l:List Ob)(m:List (Int×Int))(j:Nat):Bool:=(l.take j).any fun o=>o.t.any fun x=>(K7 m x.n).isNone
def Q2(base:Int)(l:List Ob):Int:=
 if H9 base l≠0 then H9 base l
 else match J0 base l with
  |none=>0
  |some st=>if Q1 l st.m l.length then 4 else if 32768<base+st.z then 3 else 0
theorem A1u{l:List Ob}{m:List (Int×Int)}(h:Q1 l m l.length=false){j k:Nat}(hj:j<l.length)(hk:k<(l.getD j default).t.length):∃a,K7 m ((l.getD j default).t.getD k default).n=some a:=by
 unfold Q1 at h;rw[List.take_length]at h;have h1:=List.any_eq_false.1 h _ (I7 hj);have h2:=List.any_eq_false.1 (Bool.not_eq_true _▸h1:(l.getD j default).t.any (fun x=>(K7 m x.n).isNone)=false) _ (I7 hk);cases e:K7 m ((l.getD j default).t.getD k default).n with
 |some a=>exact⟨a,rfl⟩
 |none=>rw[e]at h2;simp at h2
theorem s5{c z:Int}:∀{s:List Sy} {m0 m:List (Int×Int)},(∀y∈s,0≤y.a∧y.a≤z)→U6 c s m0=some m→∀q∈m,q∈m0∨c≤q.2∧q.2≤c+z
 |[],m0,m,_,h,q,hq=>by simp[U6]at h;subst h;exact .inl hq
 |y::s,m0,m,hy,h,q,hq=>by
  unfold U6 at h;rw[List.foldlM_cons]at h;by_cases e:m0.any (fun q=>q.1==y.n)=true
  ·rw[if_pos e]at h;cases h
  ·rw[if_neg e]at h;have:=s5 (c:=c) (z:=z) (s:=s) (m0:=m0++[(y.n,c+y.a)]) (m:=m) (fun x hx=>hy x (List.mem_cons_of_mem _ hx)) h q hq;rcases this with h1|h1
   ·rcases List.mem_append.1 h1 with h2|h2
    ·exact .inl h2
    ·simp at h2;subst h2;have:=hy y (List.mem_cons_self ..);right;simp;omega
   ·exact .inr h1
theorem s3{base:Int}:∀{l:List Ob} {j:Nat} {st:Im},(∀o∈l,F7 o=0)→j≤l.length→J0 base (l.take j)=some st→0≤st.z∧∀q∈st.m,base≤q.2∧q.2≤base+st.z
 |l,0,st,_,_,h=>by simp[J0]at h;subst h;simp
 |l,j+1,st,hl,hj,h=>by
  cases hp:J0 base (l.take j)with
  |none=>rw[S8 (l:=l.take (j+1)) (j:=j) (by rw[List.take_take,Nat.min_eq_left (by omega)];exact hp)]at h;cases h
  |some s=>
   obtain⟨z0,ih⟩:=s3 hl (by omega) hp;rw[S6 (by omega) hp]at h;unfold A1l at h;cases ha:U6 (base+J7 s.z) (l.getD j default).s s.m with
   |none=>rw[ha]at h;cases h
   |some m=>
    rw[ha]at h;simp only[Option.map_some,Option.some.injEq]at h;subst h;have hn:s.z≤J7 s.z:=by unfold J7;omega
    have hok:=A4J (hl _ (I7 (l:=l) (k:=j) (by omega)));refine⟨by show 0≤J7 s.z+_;omega,fun q hq=>?_⟩;have hq':q∈m:=hq;show base≤q.2∧q.2≤base+(J7 s.z+((l.getD j default).b.length:Int))
    rcases s5 (z:=((l.getD j default).b.length:Int)) (fun y hy=>(hok y hy).2) ha q hq' with h1|h1
    ·have:=ih q h1;omega
    ·omega
theorem b8{base:Int}:∀{l:List Ob} {j:Nat} {st:Im},j≤l.length→J0 base (l.take j)=some st→0≤st.z∧st.p.length=j∧∀i,i<j→0≤st.p.getD i 0∧st.p.getD i 0+(l.getD i default).b.length≤st.z
 |l,0,st,_,h=>by simp[J0]at h;subst h;simp
 |l,j+1,st,hj,h=>by
  cases hp:J0 base (l.take j)with
  |none=>rw[S8 (l:=l.take (j+1)) (j:=j) (by rw[List.take_take,Nat.min_eq_left (by omega)];exact hp)]at h;cases h
  |some s=>
   obtain⟨z0,pl,ih⟩:=b8 (by omega) hp;rw[S6 (by omega) hp]at h;unfold A1l at h;cases ha:U6 (base+J7 s.z) (l.getD j default).s s.m with
   |none=>rw[ha]at h;cases h
   |some m=>
    rw[ha]at h;simp only[Option.map_some,Option.some.injEq]at h;subst h;have hn:s.z≤J7 s.z:=by unfold J7;omega
    refine⟨by show 0≤J7 s.z+_;omega,by simp[pl],fun i hi=>?_⟩;simp only;rw[List.getD_eq_getElem?_getD,List.getElem?_append];by_cases e:i<s.p.length
    ·rw[if_pos e,←List.getD_eq_getElem?_getD];have:=ih i (by omega);omega
    ·obtain rfl:i=j:=by omega
     rw[if_neg e,pl,Nat.sub_self];simp;omega
theorem OInts.made{w:World}{base g n:Nat}{e:TypeId}{k:IntKind}(h:w.ownsRow base e 1 (.slice (some ⟨g,0,none⟩) n n) n (madeCells #[Value.int k 0] n).toList):OInts k w g (List.replicate n 0):=by
 refine⟨(h.lt g rfl).2,fun i hi=>?_⟩;rw[List.length_replicate]at hi;refine⟨?_,h.frozenAt i⟩;rw[h.cellAt i (by omega)];rw[toList_madeCells_one,List.getElem?_replicate,if_pos hi,List.getD_eq_getElem?_getD,List.getElem?_replicate,if_pos hi];rfl
theorem A2Y{w w':World}(h:w.grownBy w' none):Below w.heap.size w w':=(Below.refl _ _).grown h (Nat.le_refl _) (fun k hk=>by cases hk)
theorem OInts.setCells{k:IntKind}{B:Nat}:∀{bs:List Int} {w:World} {xs:List Int} {q:Nat},OInts k w B xs→q+bs.length≤xs.length→OInts k (w.setCells B q (bs.map (Value.int k))) B (O7 xs q bs)
 |[],_,_,_,h,_=>h
 |b::bs,w,xs,q,h,hl=>by
  rw[List.map_cons];rw[List.length_cons]at hl;exact OInts.setCells (h.set (i:=q) (by omega) b) (by simp;omega)
theorem Z9{B b:Nat}{a:World}(hb:B≤b):∀(vs:List Value) (o:Nat) (w:World),Below B a w→Below B a (w.setCells b o vs)
 |[],_,_,h=>h
 |v::vs,o,w,h=>Z9 hb vs (o+1) _ (A9 h hb o v)
theorem R3{D k:Nat}(h:k≠D):∀(vs:List Value) (o:Nat) (w:World),(w.setCells D o vs).heap[k]? =w.heap[k]?
 |[],_,_=>rfl
 |v::vs,o,w=>by
  rw[World.setCells,R3 h vs (o+1)];exact Below.heap_setCell w ⟨D,o,none⟩ v k h
theorem m8{D k:Nat}(h:k≠D)(vs:List Value)(o:Nat)(w:World)(i:Nat):(w.setCells D o vs).cell? ⟨k,i,none⟩=w.cell? ⟨k,i,none⟩:=by
 unfold World.cell?;simp only[R3 h vs o w]
theorem A2s{w:World}{D q n cap:Nat}{v:Value}{bs xs:List Int}{ty:TypeId}(hv:Ints .u8 w v bs)(ho:OInts .u8 w D xs)(hq:q+bs.length≤xs.length)(hn:bs.length≤n):
  (Builtin.copy_ #[28,28] ty #[.slice (some ⟨D,q,none⟩) n cap,v]).run prog w= .ok (goInt bs.length) (w.setCells D q (bs.map (Value.int .u8))):=by
 obtain⟨a,c',rfl,h1,h2,h3,h4⟩:=hv;by_cases h0:bs.length=0
 ·have e:bs=[]:=List.length_eq_zero_iff.1 h0;subst e;exact run_copy_none w 28 28 ty 5 _ _ _ _ _ _ (by kernel_rfl) (by kernel_rfl) (by simp)
 ·obtain⟨b,o,e,hb,hc⟩:=h4 0 (by omega);subst e;have:=run_copy_cells (P:=prog) w 28 28 ty 5 D q n cap ⟨b,o,none⟩ bs.length c' (bs.map (Value.int .u8)) (by kernel_rfl) (by kernel_rfl) (by rw[List.length_map];exact(Nat.min_eq_left hn).symm) (fun j v hj=>by
   rw[List.getElem?_map]at hj;cases hx:bs[j]? with
   |none=>rw[hx]at hj;cases hj
   |some y=>
    rw[hx]at hj;cases hj;have hjl:=(List.getElem?_eq_some_iff.1 hx).1;obtain⟨b2,o2,e2,hb2,hc2⟩:=h4 j hjl;cases e2;rw[Nat.mul_one]at hc2;rw[Y7,hc2,List.getD_eq_getElem?_getD,hx];rfl) (fun j hj=>by rw[ho.cell (by simp at hj;omega)];rfl) (fun j hj=>ho.free (by simp at hj;omega)) (fun v hv=>by
   obtain⟨y,_,rfl⟩:=List.mem_map.1 hv;rfl)
  rw[List.length_map]at this;exact this
section
variable {P : Program} {t K E : TypeId} {w : World} {r : Nat} {l : List (Value × Value)}
theorem A0n(law:Keyed P K)(ht:P.underlying t=some (.map K E))(h:MapIs P K w r l){k v:Value}{q:Lit}(hk:keyOf P K k=some q)(hm:(k,v)∈l):
  (Instr.lookup t (.map (some r)) k false).run P w= .ok v w:=by
 have h2:=P7 law ht h hk hm;have hb:=N0 h.2.1;rcases law.find w hk (S9 l).toList (fun e he=>h.2.2.1 _ (M9 he))with⟨hrun,hno⟩|⟨j,e,hrun,hj,hek⟩
 ·exfalso;obtain⟨i,hi,e1⟩:=List.getElem_of_mem hm;refine hno ⟨k,v,i⟩ ?_ rfl;unfold S9;simp only[List.mem_mapIdx];exact⟨i,hi,by rw[e1]⟩
 ·simp[Instr.lookup,run_underlying ht,MapKept.run_getObj_map hb,law.check w _ hk,hrun,Result.andThen]at h2⊢;exact h2
end
end Go.Proofs.YtajljbmeaeeknaaGreat
namespace Go.Proofs.YtajljbmeaeeknaaGreat
open Go.RowKit Go.Maps
set_option linter.unusedVariables false
set_option linter.unusedSimpArgs false
def pcB(set:Int)(cs:List Cd)(bl:List Int)(lo:List Bool)(j:Nat):List Int:=
 let x:=cs.getD j default
 if L9 x.o=true then brB set x (lo.getD j false) (D4 set cs lo j:Nat) (toF set cs bl lo x:Nat)else plB set x
def emB(set:Int)(cs:List Cd)(bl:List Int)(lo:List Bool):Nat→List Int
 |0=>[]
 |j+1=>emB set cs bl lo j++pcB set cs bl lo j
theorem A6c{x:Cd}(hx:x.o=24∨x.o=25)(long:Bool)(p q:Int):(E8 (br1 x long p q)).length=J5 x.o long:=by
 unfold br1 J5;rcases hx with e|e<;>cases long<;>rw[e]<;>simp[E8,V3,G8,leB]
theorem A6d{x:Cd}(hx:x.o=24∨x.o=25)(long:Bool)(h:x.o=24→long=false)(p q:Int):(H0 (br0 x long p q)).length=A4I long:=by
 rw[k8];unfold br0 A4I;rcases hx with e|e
 ·rw[h e,if_pos e];rfl
 ·rw[if_neg (by rw[e];decide)];cases long<;>rfl
theorem A6b{o:Int}(h:L9 o=true):o=24∨o=25:=by
 unfold L9 at h;simpa using h
theorem A2h{set regs:Int}(hs:A0L set regs){cs:List Cd}{bl:List Int}{lo:List Bool}(hl:LoOk set cs lo)(j:Nat):(pcB set cs bl lo j).length=N4 set (cs.getD j default) (lo.getD j false):=by
 unfold pcB N4;by_cases hb:L9 (cs.getD j default).o=true
 ·simp only[hb,if_true];have ho:=A6b hb;unfold brB szB;rcases hs with⟨rfl,_⟩|⟨rfl,_⟩
  ·rw[if_pos rfl,if_pos rfl];refine A6d ho _ (fun e=>?_) _ _;cases hlo:lo.getD j false
   ·rfl
   ·exact absurd e ((hl j hlo).2 rfl)
  ·rw[if_neg (by decide),if_neg (by decide)];exact A6c ho _ _ _
 ·simp only[hb];rfl
theorem A2q{set regs:Int}(hs:A0L set regs){cs:List Cd}{bl:List Int}{lo:List Bool}(hl:LoOk set cs lo):∀j,(emB set cs bl lo j).length=D4 set cs lo j
 |0=>rfl
 |j+1=>by
  show(emB set cs bl lo j++pcB set cs bl lo j).length=D4 set cs lo j+_
  rw[List.length_append,A2q hs hl j,A2h hs hl]
theorem A2Q{set regs nb:Int}(hs:A0L set regs)(x:Cd)(h:CdW regs nb x)(hb:L9 x.o=true)(long:Bool)(p q:Int)(hp:0≤p∧p≤100000)(hq:0≤q∧q≤100000)(h4:set=0→p%4=0∧q%4=0)(hl:long=true∨A0e set x.o p q=true)(w:World):Calls prog (fBr set) #[.agg #[],ncV x,.bool long,.int .i64 p,.int .i64 q] w fun e w'=>∃u,e= .returned u∧RowI w' w.heap.size 5 .u8 u (brB set x long p q)∧Below w.heap.size w w':=by
 rcases hs with⟨rfl,hr⟩|⟨rfl,hr⟩
 ·obtain⟨a,b⟩:=h4 rfl;exact A6a x h.ok hr long p q (A6b hb) ⟨hp.1,hp.2,a⟩ ⟨hq.1,hq.2,b⟩ hl w
 ·exact A6Z x h.ok hr long p q (A6b hb) hp hq hl w
theorem A7a{set regs nb:Int}(hs:A0L set regs){cs:List Cd}(hc:∀j,j<cs.length→CdW regs nb (cs.getD j default))(lo:List Bool){i:Nat}(hi:i≤cs.length)(h0:set=0):D4 set cs lo i%4=0:=
 q7 set cs lo cs.length (fun i hi=>(S4 hs (hc i hi) _).2.2 h0) i hi
theorem i3:∀(l out:List Int) (q k:Nat),out.length=q→l.length≤k→O7 (out++List.replicate k 0) q l=out++l++List.replicate (k-l.length) 0
 |[],out,q,k,_,_=>by simp[O7]
 |b::r,out,q,0,_,h=>by simp at h
 |b::r,out,q,k+1,hq,h=>by
  have e:(out++List.replicate (k+1) 0).set q b=(out++[b])++List.replicate k 0:=by
   subst hq;rw[List.replicate_succ,List.set_append_right _ _ (Nat.le_refl _),Nat.sub_self,List.set_cons_zero];simp
  show O7 ((out++List.replicate (k+1) 0).set q b) (q+1) r=_
  rw[e,i3 r (out++[b]) (q+1) k (by simp[hq]) (by simpa using h)];simp
theorem LayW.other{T:TypeId}{B L b cb d db s g:Nat}{cs:List Cd}{bl:List Int}{st:List Nat}{lo:List Bool}{w:World}(h:LayW T B L b cb d db s g cs bl st lo w){D:Nat}(i:Nat)(hd:D≠L∧D≠b∧D≠d∧D≠s∧D≠g)(u:Value):LayW T B L b cb d db s g cs bl st lo (w.setCell ⟨D,i,none⟩ u):=by
 obtain⟨d1,d2,d3,d4,d5⟩:=hd;have ho:∀{k o:Nat} {v:Value},k≠D→w.cell? ⟨k,o,none⟩=some v→(w.setCell ⟨D,i,none⟩ u).cell? ⟨k,o,none⟩=some v:=fun{k o v} hk hv=>by
  rw[World.cell?_setCell_other _ _ _ _ (by intro hh;cases hh;exact hk rfl)];exact hv
 refine⟨h.hl.other (Ne.symm d1) _,fun j hj=>?_,fun j hj=>ho (Ne.symm d3) (h.hd j hj),h.hs.other (Ne.symm d4) _,h.hg.other (Ne.symm d5) _,h.ls,h.lg,h.hn⟩;obtain⟨c0,c1,c2,c3,c4,c5⟩:=h.hc j hj;exact⟨ho (Ne.symm d2) c0,ho (Ne.symm d2) c1,ho (Ne.symm d2) c2,ho (Ne.symm d2) c3,ho (Ne.symm d2) c4,ho (Ne.symm d2) c5⟩
theorem LayW.lts{T:TypeId}{B L b cb d db s g:Nat}{cs:List Cd}{bl:List Int}{st:List Nat}{lo:List Bool}{w:World}(h:LayW T B L b cb d db s g cs bl st lo w)(h0:0<bl.length):L<w.heap.size∧b<w.heap.size∧d<w.heap.size∧s<w.heap.size∧g<w.heap.size:=by
 have hn:=h.hn;exact⟨h.hl.lt (by simp),B6 (h.hc 0 (by omega)).1,B6 (h.hd 0 h0),h.hs.lt (by rw[List.length_map,h.ls];omega),h.hg.lt (by rw[List.length_map,h.lg];omega)⟩
structure EmL(T:TypeId)(B L b cb d db s g:Nat)(cs:List Cd)(bl:List Int)(st:List Nat)(lo:List Bool)(n D O S1 C:Nat)(ds:List Value)(xs:List Int)(w0 w:World):Prop where
 lay:LayW T B L b cb d db s g cs bl st lo w
 xd:xs.length=n∧OInts .u8 w D xs
 o:Cls w O [.slice (some ⟨D,0,none⟩) n n,.slice (some ⟨S1,0,none⟩) 1 1,.slice none 0 0]
 s1:Cls w S1 [.int .i64 0,.int .i64 0]
 c:Cls w C ds
 cl:C<w.heap.size
 k:Below w0.heap.size w0 w
 ne:D≠L∧D≠b∧D≠d∧D≠s∧D≠g
 no:O≠D∧C≠D∧S1≠D∧w0.heap.size≤D∧w0.heap.size≤S1
section
variable {T : TypeId} {B L b cb d db s g : Nat} {cs : List Cd} {bl : List Int} {st : List Nat} {lo : List Bool} {n D O S1 C : Nat} {ds : List Value} {xs : List Int} {w0 w w' : World}
theorem EmL.below(h:EmL T B L b cb d db s g cs bl st lo n D O S1 C ds xs w0 w)(hb:Below w.heap.size w w'):EmL T B L b cb d db s g cs bl st lo n D O S1 C ds xs w0 w':=
 ⟨h.lay.below hb,⟨h.xd.1,h.xd.2.below hb⟩,h.o.below (h.o.lt (by simp)) hb,h.s1.below (h.s1.lt (by simp)) hb,h.c.below h.cl hb,Nat.lt_of_lt_of_le h.cl hb.size,A8 h.k hb,h.ne,h.no⟩
theorem EmL.put(h:EmL T B L b cb d db s g cs bl st lo n D O S1 C ds xs w0 w){i:Nat}(hi:i<n)(x:Int):EmL T B L b cb d db s g cs bl st lo n D O S1 C ds (xs.set i x) w0 (w.setCell ⟨D,i,none⟩ (.int .u8 x)):=by
 obtain⟨h1,h2⟩:=h.xd;exact⟨h.lay.other i h.ne _,⟨by simpa using h1,h2.set (by omega) x⟩,h.o.other h.no.1 _,h.s1.other h.no.2.2.1 _,h.c.other h.no.2.1 _,by simpa using h.cl,A9 h.k h.no.2.2.2.1 _ _,h.ne,h.no⟩
theorem EmL.copy:∀(ys:List Int) (q:Nat) (xs:List Int) (w:World),EmL T B L b cb d db s g cs bl st lo n D O S1 C ds xs w0 w→q+ys.length≤n→EmL T B L b cb d db s g cs bl st lo n D O S1 C ds (O7 xs q ys) w0 (w.setCells D q (ys.map (Value.int .u8)))
 |[],_,_,_,h,_=>h
 |x::ys,q,xs,w,h,hq=>by
  rw[List.length_cons]at hq;exact EmL.copy ys (q+1) _ _ (h.put (by omega) x) (by omega)
theorem OInts.block{k:IntKind}{w w':World}{D:Nat}{xs:List Int}(h:OInts k w D xs)(hb:w'.heap[D]? =w.heap[D]?)(hs:w.heap.size≤w'.heap.size):OInts k w' D xs:=by
 refine⟨Nat.lt_of_lt_of_le h.1 hs,fun i hi=>?_⟩;obtain⟨h1,h2⟩:=h.2 i hi;exact⟨by rw[←h1];simp only[World.cell?,hb],by rw[←h2];simp only[World.frozen?,hb]⟩
def EmX(T:TypeId)(B L b cb d db s g:Nat)(cs:List Cd)(bl:List Int)(st:List Nat)(lo:List Bool)(n D O S1 C:Nat)(ds:List Value)(w0 w:World):Prop:=∃xs,EmL T B L b cb d db s g cs bl st lo n D O S1 C ds xs w0 w
theorem EmX.below(h:EmX T B L b cb d db s g cs bl st lo n D O S1 C ds w0 w)(hb:Below w.heap.size w w'):EmX T B L b cb d db s g cs bl st lo n D O S1 C ds w0 w':=by
 obtain⟨xs,h⟩:=h;exact⟨xs,h.below hb⟩
theorem EmX.drew(h:EmX T B L b cb d db s g cs bl st lo n D O S1 C ds w0 w):EmX T B L b cb d db s g cs bl st lo n D O S1 C ds w0 w.drew:=h.below (B8 (Below.refl _ _) 1)
theorem EmX.of(h:EmL T B L b cb d db s g cs bl st lo n D O S1 C ds xs w0 w):EmX T B L b cb d db s g cs bl st lo n D O S1 C ds w0 w:=⟨_,h⟩
theorem EmL.drew(h:EmL T B L b cb d db s g cs bl st lo n D O S1 C ds xs w0 w):EmL T B L b cb d db s g cs bl st lo n D O S1 C ds xs w0 w.drew:=h.below (B8 (Below.refl _ _) 1)
theorem EmL.copied(h:EmL T B L b cb d db s g cs bl st lo n D O S1 C ds xs w0 w){v:Value}{ys:List Int}(hv:Ints .u8 w v ys){q:Nat}(hq:q+ys.length≤n):
  (∀ty m cap,ys.length≤m→(Builtin.copy_ #[28,28] ty #[.slice (some ⟨D,q,none⟩) m cap,v]).run prog w= .ok (goInt ys.length) (w.setCells D q (ys.map (Value.int .u8))))∧EmL T B L b cb d db s g cs bl st lo n D O S1 C ds (O7 xs q ys) w0 (w.setCells D q (ys.map (Value.int .u8))):=
 ⟨fun ty m cap hm=>A2s hv h.xd.2 (by rw[h.xd.1];exact hq) hm,EmL.copy ys q xs w h hq⟩
theorem EmL.with(h:EmL T B L b cb d db s g cs bl st lo n D O S1 C ds xs w0 w)(h0:0<n)(hb:Below w.heap.size w w'){C':Nat}{ds':List Value}(hc:Cls w' C' ds')(hl:0<ds'.length)(hC:w.heap.size≤C'):EmL T B L b cb d db s g cs bl st lo n D O S1 C' ds' xs w0 w':=by
 have h1:=h.below hb;have hD:=(h.xd.2.2 0 (by rw[h.xd.1];exact h0)).1;have:=B6 hD;exact⟨h1.lay,h1.xd,h1.o,h1.s1,hc,hc.lt hl,h1.k,h1.ne,h1.no.1,by omega,h1.no.2.2⟩
end
end Go.Proofs.YtajljbmeaeeknaaGreat
