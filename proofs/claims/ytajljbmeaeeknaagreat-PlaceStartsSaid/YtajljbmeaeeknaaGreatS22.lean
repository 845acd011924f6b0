/- -/
import Derived.Laws.OwnMore
import Derived.Laws.AppendOwnNone
import Derived.WalkKit
import Derived.Deep.MidRow
import Derived.Laws.ResultCell
import Derived.Test.YtajljbmeaeeknaaGreatS1
import Derived.Test.YtajljbmeaeeknaaGreatS21
open Go.Proofs.Tryz
open Go.Lib (hid)
set_option maxRecDepth 100000
namespace Go.Proofs.YtajljbmeaeeknaaGreat
open Go.RowKit Go.Maps
set_option linter.unusedVariables false
set_option linter.unusedSimpArgs false
structure Im where
 p:List Int
 z:Int
 m:List (Int×Int)
def U6(c:Int)(l:List Sy)(m:List (Int×Int)):Option (List (Int×Int)):=l.foldlM (fun m s=>if m.any (fun q=>q.1==s.n)then none else some (m++[(s.n,c+s.a)])) m
def J7(z:Int):Int:=(z+3) / 4*4
def A1l(base:Int)(st:Im)(o:Ob):Option Im:=(U6 (base+J7 st.z) o.s st.m).map fun m=>⟨st.p++[J7 st.z],J7 st.z+o.b.length,m⟩
def J0(base:Int)(l:List Ob):Option Im:=l.foldlM (A1l base) ⟨[],0,[]⟩
def N3:List Ob→Int
 |[]=>0
 |o::l=>if F7 o=0 then N3 l else F7 o
def H9(base:Int)(l:List Ob):Int:=
 if 4<l.length then 3 else if N3 l≠0 then N3 l else if base<0∨32768<base∨base.tmod 4≠0 then 1 else if(J0 base l).isNone then 7 else 0
theorem k6:∀{l:List Ob} {j:Nat},(∀i,i<j→F7 (l.getD i default)=0)→j<l.length→F7 (l.getD j default)≠0→N3 l=F7 (l.getD j default)
 |o::l,0,_,_,h=>by simp at h⊢;unfold N3;rw[if_neg h]
 |o::l,j+1,h0,hj,h=>by
  have e0:F7 o=0:=h0 0 (by omega);unfold N3;rw[if_pos e0];have:=k6 (l:=l) (j:=j) (fun i hi=>by have:=h0 (i+1) (by omega);simpa using this) (by simpa using hj) (by simpa using h);simpa using this
theorem N9:∀{l:List Ob},(∀i,i<l.length→F7 (l.getD i default)=0)→N3 l=0
 |[],_=>rfl
 |o::l,h=>by
  have e0:F7 o=0:=h 0 (by simp);unfold N3;rw[if_pos e0];exact N9 fun i hi=>by have:=h (i+1) (by simpa using hi);simpa using this
theorem Z8:∀{l:List Ob},N3 l=0→∀o∈l,F7 o=0
 |[],_,o,h=>by cases h
 |x::l,h,o,ho=>by
  unfold N3 at h;by_cases e:F7 x=0
  ·rw[if_pos e]at h;rcases List.mem_cons.1 ho with rfl|ho
   ·exact e
   ·exact Z8 h o ho
  ·rw[if_neg e]at h;exact absurd h e
theorem s6{c:Int}{l:List Sy}{m0 m:List (Int×Int)}{k:Nat}(hk:k<l.length)(h:U6 c (l.take k) m0=some m):U6 c (l.take (k+1)) m0=if m.any (fun q=>q.1==(l.getD k default).n)then none else some (m++[((l.getD k default).n,c+(l.getD k default).a)]):=by
 unfold U6 at h⊢;rw[List.take_succ_eq_append_getElem hk,List.foldlM_append,h,List.getD_eq_getElem?_getD,List.getElem?_eq_getElem hk];simp
theorem A3u{c:Int}{l:List Sy}{m0:List (Int×Int)}{k:Nat}(h:U6 c (l.take k) m0=none):U6 c l m0=none:=by
 unfold U6 at h⊢;rw[←List.take_append_drop k l,List.foldlM_append,h];rfl
theorem S6{base:Int}{l:List Ob}{st:Im}{j:Nat}(hj:j<l.length)(h:J0 base (l.take j)=some st):J0 base (l.take (j+1))=A1l base st (l.getD j default):=by
 unfold J0 at h⊢;rw[List.take_succ_eq_append_getElem hj,List.foldlM_append,h,List.getD_eq_getElem?_getD,List.getElem?_eq_getElem hj];simp
theorem S8{base:Int}{l:List Ob}{j:Nat}(h:J0 base (l.take j)=none):J0 base l=none:=by
 unfold J0 at h⊢;rw[←List.take_append_drop j l,List.foldlM_append,h];rfl
theorem S7{base:Int}:∀{l:List Ob} {j:Nat} {st:Im},(∀o∈l,o.b.length≤8192)→j≤l.length→J0 base (l.take j)=some st→0≤st.z∧st.z≤8196*j∧st.p.length=j
 |l,0,st,_,_,h=>by simp[J0]at h;subst h;simp
 |l,j+1,st,hl,hj,h=>by
  cases hp:J0 base (l.take j)with
  |none=>rw[S8 (l:=l.take (j+1)) (j:=j) (by rw[List.take_take,Nat.min_eq_left (by omega)];exact hp)]at h;cases h
  |some s=>
   have ih:=S7 hl (by omega) hp;rw[S6 (by omega) hp]at h;unfold A1l at h;cases ha:U6 (base+J7 s.z) (l.getD j default).s s.m with
   |none=>rw[ha]at h;cases h
   |some m=>
    rw[ha]at h;simp only[Option.map_some,Option.some.injEq]at h;subst h;have hm:l.getD j default∈l:=by rw[List.getD_eq_getElem?_getD,List.getElem?_eq_getElem (by omega)];exact List.getElem_mem _
    have:=hl _ hm;simp only[List.length_append,List.length_cons,List.length_nil];unfold J7;omega
theorem o8{w:World}{b o r:Nat}{v:Value}(h:b≠r):K6 (w.setCell ⟨b,o,none⟩ v) r=K6 w r:=by
 unfold K6;rw[Below.heap_setCell w ⟨b,o,none⟩ v r (fun e=>h e.symm)]
theorem MapIs.set{P:Program}{K:TypeId}{w:World}{r b o:Nat}{l:List (Value×Value)}{v:Value}(h:MapIs P K w r l)(hb:b≠r):MapIs P K (w.setCell ⟨b,o,none⟩ v) r l:=by
 obtain⟨h0,h1,h2,h3⟩:=h;exact⟨by simpa using h0,by rw[o8 hb];exact h1,h2,h3⟩
def g9(m:List (Int×Int)):List (Value×Value):=m.map fun q=>(.int .i64 q.1,.int .i64 q.2)
theorem L6{w w':World}{base:Nat}{e:TypeId}{z:Nat}{v:Value}{n:Nat}{xs:List Value}(h:w.ownsRow base e z v n xs)(hb:∀k,base≤k→w'.heap[k]? =w.heap[k]?):w'.ownsRow base e z v n xs:=by
 obtain⟨h0,⟨rfl,h1⟩|⟨g,cap,cur,rfl,hb',hg,h1,h2,h3,h4⟩⟩:=h
 ·exact⟨h0,.inl ⟨rfl,h1⟩⟩
 ·exact⟨h0,.inr ⟨g,cap,cur,rfl,hb',by rw[hb g hb'];exact hg,h1,h2,h3,h4⟩⟩
structure ArS(w0:World)(R M I:Nat)(st:Im)(w:World):Prop where
 keep:Below w0.heap.size w0 w
 o:w0.heap.size=R∧R<M∧M<I∧I<w.heap.size
 r:Cls w R [.slice none 0 0,.int .i64 0,.map none]
 i:∃v,Cls w I [v,.int .i64 st.z,.map (some M)]∧RowI w (I+1) 3 .i64 v st.p
 m:MapIs prog 3 w M (g9 st.m)
theorem ArS.below{w0:World}{R M I:Nat}{st:Im}{w w':World}(h:ArS w0 R M I st w)(hb:Below w.heap.size w w'):ArS w0 R M I st w':=by
 obtain⟨h1,⟨o1,o2,o3,o4⟩,h2,⟨v,h3,h4⟩,h5⟩:=h;exact⟨B7 h1 h1.size hb,⟨o1,o2,o3,Nat.lt_of_lt_of_le o4 hb.size⟩,h2.below (by omega) hb,⟨v,h3.below o4 hb,h4.below hb⟩,h5.below hb⟩
theorem ArS.app{w0:World}{R M I:Nat}{st:Im}{w w':World}{v':Value}{y:Int}(h:ArS w0 R M I st w)(hb:Below (I+1) w w')(hr:RowI w' (I+1) 3 .i64 v' (st.p++[y])):ArS w0 R M I ⟨st.p++[y],st.z,st.m⟩ (w'.setCell ⟨I,0,none⟩ v'):=by
 obtain⟨h1,⟨o1,o2,o3,o4⟩,h2,⟨v,h3,h4⟩,h5⟩:=h;have hs:=hb.size;refine⟨A9 (h1.trans (hb.mono (by omega))) (by omega) _ _,⟨o1,o2,o3,by simp;omega⟩,(h2.below (by omega) hb).other (by omega) _,⟨v',?_,?_⟩,?_⟩
 ·exact(h3.below (by omega) hb).set (k:=0) (by simp) v'
 ·exact L6 hr fun k hk=>Below.heap_setCell w' ⟨I,0,none⟩ v' k (by show k≠I;omega)
 ·obtain⟨a,b,c,d⟩:=h5;refine MapIs.set ⟨by omega,?_,c,d⟩ (by omega);rw[←b];unfold K6;rw[hb.block M (by omega)]
theorem ArS.size{w0:World}{R M I:Nat}{st:Im}{w:World}(h:ArS w0 R M I st w)(n:Int):ArS w0 R M I ⟨st.p,n,st.m⟩ (w.setCell ⟨I,1,none⟩ (.int .i64 n)):=by
 obtain⟨h1,⟨o1,o2,o3,o4⟩,h2,⟨v,h3,h4⟩,h5⟩:=h;refine⟨A9 h1 (by omega) _ _,⟨o1,o2,o3,by simp;omega⟩,h2.other (by omega) _,⟨v,?_,?_⟩,h5.set (by omega)⟩
 ·exact h3.set (k:=1) (by simp) _
 ·exact L6 h4 fun k hk=>Below.heap_setCell w ⟨I,1,none⟩ _ k (by show k≠I;omega)
def A8b(n:Int):Prop:= -9223372036854775808≤n∧n≤9223372036854775807
theorem V0{n:Int}(h:A8b n):keyOf prog 3 (.int .i64 n)=some (.int .i64 n):=keyOf_int_mk underlying3 (WalkArith.wf_i64 h)
theorem Q6{m:List (Int×Int)}{n:Int}(h:m.any (fun q=>q.1==n)=false):∀p∈g9 m,p.1≠ .int .i64 n:=by
 intro p hp e;unfold g9 at hp;obtain⟨q,hq,rfl⟩:=List.mem_map.1 hp;have:=List.any_eq_false.1 h q hq;cases e;simp at this
theorem ArS.put{w0:World}{R M I:Nat}{st:Im}{w:World}(h:ArS w0 R M I st w)(n a:Int)(hI:A8b n)(hn:st.m.any (fun q=>q.1==n)=false):
  ArS w0 R M I ⟨st.p,st.z,st.m++[(n,a)]⟩ (H7 w M (S9 (g9 st.m++[(.int .i64 n,.int .i64 a)])) ((g9 st.m).length+1)):=by
 obtain⟨h1,⟨o1,o2,o3,o4⟩,h2,⟨v,h3,h4⟩,h5⟩:=h;have hq:=V0 hI;refine⟨A0I h1 (by omega) _ _,⟨o1,o2,o3,by rw[Q7];exact o4⟩,h2.map (by omega) _ _,⟨v,h3.map (by omega) _ _,?_⟩,?_⟩
 ·exact L6 h4 fun k hk=>by
   show(w.heap.setIfInBounds M _)[k]? =_
   rw[Array.getElem?_setIfInBounds,if_neg (by omega)]
 ·have:=h5.new (v:=.int .i64 a) hq (Q6 hn);simpa[g9]using this
theorem A2B:(prog.info? 3).map (fun i=>(i.zero,i.size,i.bytes))=some (some (.int .i64 0),1,8):=by kernel_rfl
theorem A6e{w:World}{ops:Array Oper}{rest:List Oper}{o:Oper}{a:Act}{Q:Exit→Act→World→Prop}(hgd:o.guard=none)(s x:Operand)
  (ho:o.op= .call {callee:=.builtin .append,args:=#[s,x],argTypes:=#[54,54]}) (base:Nat) (v:Value) (xs:List Int) (hs:a.eval s=v) (hown:RowI w base 3 .i64 v xs)
  (g c:Nat) (y:Int) (hx:a.eval x= .slice (some ⟨g,0,none⟩) 1 c) (hy:w.cell? ⟨g,0,none⟩=some (.int .i64 y)) (hl:xs.length≤100000) (hbase:base≤w.heap.size)
  (h:∀v' w',RowI w' base 3 .i64 v' (xs++[y])→Below base w w'→w.grownBy w' v.ownBlock→wpList prog ops Q rest (a.put o.dst v') w'):wpList prog ops Q (o::rest) a w:=by
 obtain⟨i0,hi0,hz0,hz1,hz2⟩:=info_parts A2B;refine wpList_append_own (P:=prog) w hgd s x _ ho base 3 i0 (.int .i64 0) 1 8 underlying54 hi0 hz0 hz1 hz2 rfl (by decide) v xs.length _ hs hown ⟨g,0,none⟩ 1 c [.int .i64 y] hx rfl (fun j u hj=>?_) (fun u hu=>?_) ?_ ?_ hbase ?_
 ·rcases j with _|j
  ·cases hj;simpa[Addr.add]using hy
  ·cases hj
 ·simp at hu;subst hu;rfl
 ·unfold maxLen;omega
 ·omega
 ·intro v' w' hown' hg _;exact h v' w' (RowI.app1 hown' rfl rfl) ((Below.refl _ _).grown hg hbase (R5 hown)) hg
theorem A7R{p:Prop}(h:p:=by
 go_wp2_with fail
 refine bodyPost_ret (v:=.tuple #[.agg #[.slice none 0 0,.int .i64 0,.map none],.int .i64 1]) (Cls.res2 (cs:=[.slice none 0 0,.int .i64 0,.map none]) (((CR1.out.set (k:=0) (by simp) _).set (k:=1) (by simp) _).set (k:=2) (by simp) _) rfl rfl rfl underlying145 rfl isz) rfl ⟨A9 (A9 (A9 HW.out (Nat.le_refl _) _ _) (Nat.le_refl _) _ _) (Nat.le_refl _) _ _,.inl ⟨by rw[HV.out];decide,by rw[HV.out]⟩⟩
 ):p:=h
theorem Cls.three{w:World}{b:Nat}{x y z:Value}(h:Cls w b [x,y,z]):(w.cell? ⟨b,0,none⟩=some x∧w.frozen? ⟨b,0,none⟩=false)∧(w.cell? ⟨b,1,none⟩=some y∧w.frozen? ⟨b,1,none⟩=false)∧(w.cell? ⟨b,2,none⟩=some z∧w.frozen? ⟨b,2,none⟩=false):=⟨h 0 _ rfl,h 1 _ rfl,h 2 _ rfl⟩
theorem Obs.shape{w:World}{v:Value}{l:List Ob}(h:Obs w v l):∃a c,v= .slice a l.length c∧l.length≤c∧l.length≤140737488351232∧∀i,i<l.length→∃b o,a=some ⟨b,o,none⟩∧b<w.heap.size∧ObAt w b (o+i*3) (l.getD i default):=by
 obtain⟨a,c,rfl,h1,h2,_,h3⟩:=h;exact⟨a,c,rfl,h1,h2.1,h3⟩
theorem A9S{w w':World}{a:Option Addr}{l:List Ob}(h:∀i,i<l.length→∃b o,a=some ⟨b,o,none⟩∧b<w.heap.size∧ObAt w b (o+i*3) (l.getD i default))(hb:Below w.heap.size w w'):∀i,i<l.length→∃b o,a=some ⟨b,o,none⟩∧b<w'.heap.size∧ObAt w' b (o+i*3) (l.getD i default):=fun i hi=>by
 obtain⟨b,o,e,h1,h2⟩:=h i hi;exact⟨b,o,e,Nat.lt_of_lt_of_le h1 hb.size,h2.stays h1 hb⟩
def B0R(base:Int)(l:List Ob)(w:World)(e:Ending)(w':World):Prop:=
 Below w.heap.size w w'∧
 ((H9 base l≠0∧e= .returned (.tuple #[.agg #[.slice none 0 0,.int .i64 0,.map none],.int .i64 (H9 base l)]))∨
 (H9 base l=0∧∃st v M,J0 base l=some st∧e= .returned (.tuple #[.agg #[v,.int .i64 st.z,.map (some M)],.int .i64 0])∧Ints .i64 w' v st.p∧MapIs prog 3 w' M (g9 st.m)))
theorem A8W{base:Int}{l:List Ob}(h:4<l.length):H9 base l=3:=if_pos h
theorem A8U{base:Int}{l:List Ob}{j:Nat}(h:¬4<l.length)(h0:∀i,i<j→F7 (l.getD i default)=0)(hj:j<l.length)(h1:F7 (l.getD j default)≠0):H9 base l=F7 (l.getD j default):=by
 unfold H9;rw[if_neg h,k6 h0 hj h1,if_pos h1]
theorem A8X{base:Int}{l:List Ob}(h:¬4<l.length)(h0:∀i,i<l.length→F7 (l.getD i default)=0)(h1:base<0∨32768<base∨base.tmod 4≠0):H9 base l=1:=by
 unfold H9;rw[if_neg h,N9 h0,if_neg (by simp),if_pos h1]
theorem A8V{base:Int}{l:List Ob}(h:¬4<l.length)(h0:∀i,i<l.length→F7 (l.getD i default)=0)(h1:¬(base<0∨32768<base∨base.tmod 4≠0))(h2:J0 base l=none):H9 base l=7:=by
 unfold H9;rw[if_neg h,N9 h0,if_neg (by simp),if_neg h1,h2];rfl
theorem A8Y{base:Int}{l:List Ob}{st:Im}(h:¬4<l.length)(h0:∀i,i<l.length→F7 (l.getD i default)=0)(h1:¬(base<0∨32768<base∨base.tmod 4≠0))(h2:J0 base l=some st):H9 base l=0:=by
 unfold H9;rw[if_neg h,N9 h0,if_neg (by simp),if_neg h1,h2];rfl
theorem A4J{o:Ob}(h:F7 o=0):∀s∈o.s,(-2147483648≤s.n∧s.n≤2147483647)∧0≤s.a∧s.a≤o.b.length:=by
 intro s hs;by_cases g:8192<o.b.length∨64<o.s.length∨64<o.t.length
 ·rw[P3 g]at h;omega
 ·cases g2:o.s.any (V9 o.b.length)with
  |true=>rw[u7 g g2]at h;omega
  |false=>
   have:=List.any_eq_false.1 g2 s hs;unfold V9 T4 at this;simp at this;omega
theorem I7{α:Type}[Inhabited α]{l:List α}{k:Nat}(h:k<l.length):l.getD k default∈l:=by
 rw[List.getD_eq_getElem?_getD,List.getElem?_eq_getElem h];exact List.getElem_mem h
theorem A4K{m:List (Int×Int)}{n:Int}(h:m.any (fun q=>q.1==n)=true):∃a,(Value.int .i64 n,Value.int .i64 a)∈g9 m:=by
 obtain⟨q,hq,h1⟩:=List.any_eq_true.1 h;refine⟨q.2,List.mem_map.2 ⟨q,hq,?_⟩⟩;have:q.1=n:=by simpa using h1
 rw[this]
theorem N8:Keyed prog 3:=int_keyed underlying3
theorem isz:(prog.info? 145).map (·.size)=some 3:=by kernel_rfl
set_option maxHeartbeats 4000000 in
theorem V5(l:List Ob)(lv:Value)(base:Int)(w:World)(h:Obs w lv l)(hwf:∀o∈l,ObF o):Calls prog 70 #[lv,.int .i64 base] w fun e w'=>B0R base l w e w':=by
 obtain⟨a,c,rfl,hc1,hc2,hrow⟩:=h.shape;clear h;have HR:=hid hrow;have B0:=hid ((Below.refl _ w).alloc (Nat.le_refl _) (.cells #[.slice none 0 0,.int .i64 0,.map none] 145));clear hrow;by_cases h4:4<l.length
 ·have HV:=hid (A8W (base:=base) h4);have g1:decide ((4:Int)<(l.length:Int))=true:=decide_eq_true (by omega);go_enter func70,ntmps70;go_wp2_with fail
  refine bodyPost_ret (v:=.tuple #[.agg #[.slice none 0 0,.int .i64 0,.map none],.int .i64 3]) (Cls.res2 (cs:=[.slice none 0 0,.int .i64 0,.map none]) Cls.made rfl rfl rfl underlying145 rfl isz) rfl ⟨B0.out,.inl ⟨by rw[HV.out];decide,by rw[HV.out]⟩⟩
 ·have g1:decide ((4:Int)<(l.length:Int))=false:=decide_eq_false (by omega);have H4:=hid h4;obtain⟨W1,hW1⟩:∃W,w.alloc (.cells #[.slice none 0 0,.int .i64 0,.map none] 145)=W:=⟨_,rfl⟩
  have CR:Hid (Cls W1 w.heap.size [.slice none 0 0,.int .i64 0,.map none]):=by rw[←hW1];exact Cls.made
  have hs1:W1.heap.size=w.heap.size+1:=by rw[←hW1];simp
  rw[hW1]at B0;clear h4;go_enter func70,ntmps70;go_wp2_with fail
  clear hW1
  go_loopw[23] (fun i wr=>∃j:Nat,j≤l.length∧i= .int .i64 j∧Hid (∀i,i<j→F7 (l.getD i default)=0)∧Below W1.heap.size W1 wr) (fun i _=>l.length-(intOf i).toNat)
  case atStart=>exact⟨0,Nat.zero_le _,rfl,(fun i hi=>absurd hi (by omega)),Below.refl _ _⟩
  case round=>
   obtain⟨j,hj,rfl,hno,hb⟩:=hrel;have HB:=hid hb;have hbs:=hb.size;have CR1:Hid (Cls wr w.heap.size [.slice none 0 0,.int .i64 0,.map none]):=CR.out.below (by omega) hb;have HW:Hid (Below w.heap.size w wr):=B7 B0.out (by omega) hb;by_cases hjl:j<l.length
   ·obtain⟨b,q,ea,hbl,vb,vs,vt,x0,x1,x2,hx⟩:=A9S HR.out HW.out j hjl;subst ea;obtain⟨ba,cb,rfl,_,_⟩:=hx.1.shape2;obtain⟨sa,cs,rfl,_⟩:=hx.2.1.shape;obtain⟨ta,ct,rfl,_⟩:=hx.2.2.shape;generalize hlo:l.getD j default=oj at*
    have HLO:=hid hlo;clear hlo;have hv:=A4k oj _ _ _ (wr.alloc (.cells #[.slice ba oj.b.length cb,.slice sa oj.s.length cs,.slice ta oj.t.length ct] 32)) (hx.stays ((Below.refl _ _).alloc (Nat.le_refl _) _));have BX:Hid (Below wr.heap.size wr (wr.alloc (.cells #[.slice ba oj.b.length cb,.slice sa oj.s.length cs,.slice ta oj.t.length ct] 32))):=(Below.refl _ _).alloc (Nat.le_refl _) _;have C1:=hid hv;have hne:¬b=wr.heap.size:=by omega
    have hlr:w.heap.size<wr.heap.size:=by omega
    clear hb hv hx;cases hz:(F7 oj==0)
    ·have hz':F7 oj≠0:=by simpa using hz
     have HV:Hid (H9 base l=F7 oj):=by have:=A8U (base:=base) H4.out hno.out hjl (by rw[HLO.out];exact hz');rw[HLO.out]at this;exact this
     have HNZ:=hid hz';have hbne:(F7 oj !=0)=true:=by simp[bne,hz]
     clear hz' hz;generalize F7 oj=ev at*
     have BX2:Hid (∀w',Below (wr.heap.size+1) (wr.alloc (.cells #[.slice ba oj.b.length cb,.slice sa oj.s.length cs,.slice ta oj.t.length ct] 32)) w'→Cls w' w.heap.size [.slice none 0 0,.int .i64 0,.map none]∧Below w.heap.size w w'):=fun w' h'=>
      ⟨(CR1.out.below (by omega) BX.out).below (by omega) h',B7 (B7 HW.out (by omega) BX.out) (by simp;omega) (by rw[World.size_alloc];exact h')⟩
     clear BX HB HR HW CR1 hwf;go_wp2_with(go_at_call 97;with_reducible refine C1.out.mono ?_;rintro e w3 ⟨rfl,hb3⟩;obtain⟨hc3,hw3⟩:=BX2.out w3 (by rw[World.size_alloc]at hb3;exact hb3);obtain⟨⟨r0,f0⟩,⟨r1,f1⟩,⟨r2,f2⟩⟩:=hc3.three;have HC3:=hid hc3;have HW3:=hid hw3;clear hc3 hw3 hb3)
     refine bodyPost_ret (v:=.tuple #[.agg #[.slice none 0 0,.int .i64 0,.map none],.int .i64 ev]) (Cls.res2 (cs:=[.slice none 0 0,.int .i64 0,.map none]) (((HC3.out.set (k:=0) (by simp) _).set (k:=1) (by simp) _).set (k:=2) (by simp) _) rfl rfl rfl underlying145 rfl isz) rfl ⟨A9 (A9 (A9 HW3.out (Nat.le_refl _) _ _) (Nat.le_refl _) _ _) (Nat.le_refl _) _ _,.inl ⟨by rw[HV.out];exact HNZ.out,by rw[HV.out]⟩⟩
    ·have hz':F7 oj=0:=by simpa using hz
     have HN:Hid (∀i,i<j+1→F7 (l.getD i default)=0):=fun i hi=>by
      rcases Nat.lt_or_ge i j with h|h
      ·exact hno.out i h
      ·obtain rfl:i=j:=by omega
       rw[HLO.out];exact hz'
     rw[hz']at C1;clear hz hz';go_wp2_with(go_at_call 97;with_reducible refine C1.out.mono ?_;rintro e w3 ⟨rfl,hb3⟩)
     go_roundw
     case rel=>exact⟨j+1,by omega,by go_num,HN.out,B7 (B7 HB.out (by omega) BX.out) (by simp;omega) hb3⟩
     case measure=>simp[intOf];omega
   ·obtain rfl:j=l.length:=by omega
    have HV0:=hid hno.out;obtain⟨wo,rfl⟩:∃wo:World,wo=wr:=⟨_,rfl⟩
    have hlr:w.heap.size<wo.heap.size:=by omega
    obtain⟨⟨r0,f0⟩,⟨r1,f1⟩,⟨r2,f2⟩⟩:=CR1.out.three;clear hb hbs HB hno CR B0;by_cases hbad:base<0∨32768<base∨base.tmod 4≠0
    ·have HV:=hid (A8X H4.out HV0.out hbad);cases d1:decide (base<0)
     case true=>
      clear hbad;exact A7R
     cases d2:decide (32768<base)
     case true=>
      clear hbad;exact A7R
     have b0:0≤base:=by have:=of_decide_eq_false d1;omega
     have b1:base≤32768:=by have:=of_decide_eq_false d2;omega
     have d3:(base%4 !=0)=true:=by
      rw[Int.tmod_eq_emod_of_nonneg b0]at hbad;rcases hbad with h|h|h
      ·omega
      ·omega
      ·simpa using h
     clear hbad;exact A7R
    ·have HG:=hid hbad;have b0:0≤base:=by omega
     have b1:base≤32768:=by omega
     have hm4:base.tmod 4=0:=by
      by_cases h:base.tmod 4=0
      ·exact h
      ·exact absurd (.inr (.inr h)) hbad
     have HM4:=hid hm4;have d1:decide (base<0)=false:=decide_eq_false (by omega);have d2:decide (32768<base)=false:=decide_eq_false (by omega);have d3:(base%4 !=0)=false:=by rw[←Int.tmod_eq_emod_of_nonneg b0,hm4];rfl
     obtain⟨hmk⟩:Nonempty (∀w:World,(Instr.makeMap 143 none).run prog w= .ok (.map (some w.heap.size)) (w.alloc (.map #[] 0))):=⟨fun _=>by kernel_rfl⟩
     clear hbad hm4;have A0:Hid (ArS w w.heap.size wo.heap.size (wo.heap.size+1) ⟨[],0,[]⟩ ((wo.alloc (.map #[] 0)).alloc (.cells #[.slice none 0 0,.int .i64 0,.map (some wo.heap.size)] 145))):=by
      have e1:(wo.alloc (.map #[] 0)).heap.size=wo.heap.size+1:=by simp
      refine⟨(HW.out.alloc (by omega) _).alloc (by simp;omega) _,⟨rfl,hlr,by omega,by simp⟩,?_,⟨.slice none 0 0,?_,RowI.nil _ _ _ _⟩,?_⟩
      ·exact(CR1.out.below (by omega) ((Below.refl wo.heap.size wo).alloc (Nat.le_refl _) _)).below (B:=wo.heap.size+1) (by omega) ((Below.refl _ _).alloc (by simp) _)
      ·have:=Cls.made (w:=wo.alloc (.map #[] 0)) (cs:=[.slice none 0 0,.int .i64 0,.map (some wo.heap.size)]) (t:=145);rw[e1]at this;exact this
      ·exact(MapIs.made (P:=prog) (K:=3) (w:=wo)).below ((Below.refl _ _).alloc (Nat.le_refl _) _)
     go_wp2_with fail
     clear hmk r0 r1 r2 f0 f1 f2;generalize hM:wo.heap.size=M at*
     go_loopw[50] (fun i wr=>∃(j:Nat) (st:Im),j≤l.length∧i= .int .i64 j∧Hid (J0 base (l.take j)=some st)∧ArS w w.heap.size M (M+1) st wr) (fun i _=>l.length-(intOf i).toNat)
     case atStart=>exact⟨0,⟨[],0,[]⟩,Nat.zero_le _,rfl,rfl,A0.out⟩
     case round=>
      obtain⟨j,st,hj,rfl,hst,hA⟩:=hrel;have HA:=hid hA;by_cases hjl:j<l.length
      ·obtain⟨b,q,ea,hbl,hxo⟩:=HR.out j hjl;subst ea;obtain⟨vb,vs,vt,y0,y1,y2,hx⟩:=hxo;obtain⟨ba,cb,rfl,_,_⟩:=hx.1.shape2;obtain⟨sa,cs,rfl,hs1,hs2,hs3⟩:=hx.2.1.shape;obtain⟨ta,ct,rfl,_⟩:=hx.2.2.shape;have x0:=A7 hA.keep hbl y0;have x1:=A7 hA.keep hbl y1;have x2:=A7 hA.keep hbl y2;clear y0 y1 y2;have hstep:=S6 (base:=base) hjl hst.out;have hov:=HV0.out j hjl;generalize hlo:l.getD j default=oj at*
       have hbz:oj.b.length≤8192∧oj.s.length≤64:=by
        by_cases g:8192<oj.b.length∨64<oj.s.length∨64<oj.t.length
        ·rw[P3 g]at hov;omega
        ·omega
       have hsz:=S7 (base:=base) (l:=l) (j:=j) (st:=st) (fun o ho=>by
        obtain⟨i,hi,rfl⟩:=List.getElem_of_mem ho;have h0:=HV0.out i hi;rw[List.getD_eq_getElem?_getD,List.getElem?_eq_getElem hi]at h0;by_cases g:8192<l[i].b.length∨64<l[i].s.length∨64<l[i].t.length
        ·have:F7 l[i]=3:=P3 g;simp at h0;omega
        ·omega) hj hst.out
       obtain⟨z0,z1,hpl⟩:=hsz;have h4':=H4.out;have z2:st.z≤40000:=by omega
       have hz3:Hid (J7 st.z=(st.z+3) / 4*4):=rfl;have hat:0≤(st.z+3) / 4*4∧(st.z+3) / 4*4≤50000:=by omega
       obtain⟨o1,o2,o3,o4⟩:=hA.o;obtain⟨v,hi,hrow⟩:=hA.i;obtain⟨⟨i0,j0⟩,⟨i1,j1⟩,⟨i2,j2⟩⟩:=hi.three;have hlt:=hrow.shape;have hne:¬M+1=wr.heap.size:=by omega
       have hne2:¬b=wr.heap.size:=by omega
       have hnb:¬b=M+1:=by omega
       have hwr:w.heap.size≤wr.heap.size:=hA.keep.size;obtain⟨Wb,hWb⟩:∃W,wr.alloc (.cells #[.slice ba oj.b.length cb,.slice sa oj.s.length cs,.slice ta oj.t.length ct] 32)=W:=⟨_,rfl⟩
       have BB:Hid (Below wr.heap.size wr Wb):=by rw[←hWb];exact(Below.refl _ _).alloc (Nat.le_refl _) _
       have c0:Wb.cell? ⟨wr.heap.size,0,none⟩=some (.slice ba oj.b.length cb):=by rw[←hWb];simp[go_sem]
       have c1:Wb.cell? ⟨wr.heap.size,1,none⟩=some (.slice sa oj.s.length cs):=by rw[←hWb];simp[go_sem]
       have hsb:Wb.heap.size=wr.heap.size+1:=by rw[←hWb];simp
       have HAB:Hid (ArS w w.heap.size M (M+1) st Wb):=hA.below BB.out;have HRB:Hid (RowI Wb (M+1+1) 3 .i64 v st.p):=hrow.below BB.out;have hown:Hid (∀k,v.ownBlock=some k→k<wr.heap.size):=fun k hk=>(World.ownsRow.lt hrow k hk).2
       obtain⟨va,vc,rfl⟩:=hlt;have i0b:=A7 BB.out (by omega) i0;have i1b:=A7 BB.out (by omega) i1;have HS3:=hid hs3;have HOV:=hid hov;have HST:=hid hstep;clear hA hi hrow hx hs3 hov hstep;go_upto_region 17 with fail
       generalize hAT:(st.z+3) / 4*4=AT at*
       have hpl2:st.p.length≤1000:=by omega
       have HPL:=hid hpl;have hlWb:wr.heap.size<Wb.heap.size:=by omega
       have HSB:=hid hsb;clear hpl hsb;have hgc:(Wb.alloc (.cells #[.int .i64 AT] 3)).cell? ⟨Wb.heap.size,0,none⟩=some (.int .i64 AT):=by simp[go_sem]
       have HRB2:Hid (RowI (Wb.alloc (.cells #[.int .i64 AT] 3)) (M+1+1) 3 .i64 (.slice va st.p.length vc) st.p):=HRB.out.below ((Below.refl _ _).alloc (Nat.le_refl _) _);have HK:Hid (∀v' w4,RowI w4 (M+1+1) 3 .i64 v' (st.p++[AT])→Below (M+1+1) (Wb.alloc (.cells #[.int .i64 AT] 3)) w4→(Wb.alloc (.cells #[.int .i64 AT] 3)).grownBy w4 (Value.slice va st.p.length vc).ownBlock→
         ArS w w.heap.size M (M+1) ⟨st.p++[AT],st.z,st.m⟩ (w4.setCell ⟨M+1,0,none⟩ v')∧(w4.cell? ⟨M+1,0,none⟩=some (.slice va st.p.length vc)∧w4.frozen? ⟨M+1,0,none⟩=false)∧(w4.cell? ⟨M+1,1,none⟩=some (.int .i64 st.z)∧w4.frozen? ⟨M+1,1,none⟩=false)∧
         w4.cell? ⟨wr.heap.size,0,none⟩=some (.slice ba oj.b.length cb)∧w4.cell? ⟨wr.heap.size,1,none⟩=some (.slice sa oj.s.length cs)∧wr.heap.size<w4.heap.size):=fun v' w4 hr4 hb4 hg4=>by
        have hA2:=HAB.out.below ((Below.refl Wb.heap.size Wb).alloc (Nat.le_refl _) (.cells #[.int .i64 AT] 3));obtain⟨v3,hi3,_⟩:=hA2.i;have hsb:=HSB.out;have hno:some wr.heap.size≠(Value.slice va st.p.length vc).ownBlock:=fun e=>by have:=hown.out _ e.symm;omega
        have hlt:wr.heap.size<Wb.heap.size:=by omega
        have hBe:=(Below.refl Wb.heap.size Wb).alloc (Nat.le_refl _) (.cells #[.int .i64 AT] 3);have e0:(Wb.alloc (.cells #[.int .i64 AT] 3)).cell? ⟨M+1,0,none⟩=some (.slice va st.p.length vc):=A7 hBe (by omega) i0b;have hi4:=hi3.below (B:=M+1+1) (by omega) hb4;have e1:=(hi3.three).1.1;rw[e0]at e1;cases e1;have hs4:=hb4.size;exact⟨hA2.app hb4 hr4,hi4.three.1,hi4.three.2.1,hg4.cell (A7 hBe hlt c0) hno,hg4.cell (A7 hBe hlt c1) hno,by have:=hg4.size;simp at this;omega⟩
       clear i0 i1 i2 j0 j1 j2 i1b c0 c1 HAB HRB BB hown;have hbl2:oj.b.length≤8192:=hbz.1;go_wp2_with(at_builtin;refine A6e rfl _ _ rfl (M+1+1) _ st.p rfl HRB2.out Wb.heap.size _ AT rfl hgc (by omega) (by simp;omega) (fun v' w4 hr4 hb4 hg4=>?_);obtain⟨va4,vc4,rfl⟩:=hr4.shape;obtain⟨A5,⟨k0,g0⟩,⟨k1,g1⟩,d0,d1,hl4⟩:=HK.out _ w4 hr4 hb4 hg4;simp only[List.length_append,List.length_cons,List.length_nil,Nat.zero_add]at A5;have A6:=hid A5;clear A5 hr4 hb4 hg4 HRB2 hgc)
       have hA7:=A6.out.size (AT+oj.b.length);clear A6 k0 g0 k1 g1 d0 d1 i0b HK;generalize(w4.setCell ⟨M+1,0,none⟩ (.slice va4 (st.p.length+1) vc4)).setCell ⟨M+1,1,none⟩ (.int .i64 (AT+oj.b.length))=W7 at*
       obtain⟨wz,rfl⟩:∃wz:World,wz=wr:=⟨_,rfl⟩
       go_loopw[74] (fun i wr=>∃(k:Nat) (ms:List (Int×Int)),k≤oj.s.length∧i= .int .i64 k∧Hid (U6 (base+AT) (oj.s.take k) st.m=some ms)∧ArS w w.heap.size M (M+1) ⟨st.p++[AT],AT+oj.b.length,ms⟩ wr) (fun i _=>oj.s.length-(intOf i).toNat)
       case atStart=>exact⟨0,st.m,Nat.zero_le _,rfl,rfl,hA7⟩
       case round=>
        obtain⟨k,ms,hk,rfl,hms,hA⟩:=hrel;have HAk:=hid hA;by_cases hkl:k<oj.s.length
        ·obtain⟨b',q',ea,hbl',u0,u1⟩:=Z5 HS3.out hA.keep k hkl;subst ea;have hyb:=A4J HOV.out _ (I7 hkl);generalize hy:oj.s.getD k default=y at*
         have HY:=hid hy;clear hy;obtain⟨yn,ya⟩:=y;simp only at u0 u1 hyb;obtain⟨⟨hn1,hn2⟩,ha1,ha2⟩:=hyb;have hne3:¬b'=wr.heap.size:=by omega
         obtain⟨Wb,hWb⟩:∃W,wr.alloc (.cells #[.int .i64 yn,.int .i64 ya] 40)=W:=⟨_,rfl⟩
         have BB:Hid (Below wr.heap.size wr Wb):=by rw[←hWb];exact(Below.refl _ _).alloc (Nat.le_refl _) _
         have v0:Wb.cell? ⟨wr.heap.size,0,none⟩=some (.int .i64 yn):=by rw[←hWb];simp[go_sem]
         have v1:Wb.cell? ⟨wr.heap.size,1,none⟩=some (.int .i64 ya):=by rw[←hWb];simp[go_sem]
         have hAb:=hA.below BB.out;have HAB:Hid (ArS w w.heap.size M (M+1) ⟨st.p++[AT],AT+oj.b.length,ms⟩ Wb):=hAb;obtain⟨vv,hi,-⟩:=hAb.i;have i2:=hi.three.2.2.1;obtain⟨⟨r0,f0⟩,⟨r1,f1⟩,⟨r2,f2⟩⟩:=hAb.r.three;have hMl:=hAb.m.1;obtain⟨o1',o2',o3',o4'⟩:=hAb.o;have hkey:=V0 (n:=yn) ⟨by omega,by omega⟩;cases hf:ms.any (fun q=>q.1==yn)
         ·have hlk:=R7 N8 underlying143 (z:=.int .i64 0) (fun w=>by kernel_rfl) hAb.m hkey (Q6 hf);have hup:=A1d N8 underlying143 hAb.m (v:=.int .i64 (base+AT+ya)) hkey (Q6 hf);have HPUT:=hid (HAB.out.put yn (base+AT+ya) ⟨by omega,by omega⟩ hf);have HN:Hid (U6 (base+AT) (oj.s.take (k+1)) st.m=some (ms++[(yn,base+AT+ya)])):=by
           have e1:=s6 hkl hms.out;rw[HY.out]at e1;simp only[hf]at e1;exact e1
          clear hf hA hAb hi hkey;go_wp2_with fail
          go_roundw
          case rel=>exact⟨k+1,ms++[(yn,base+AT+ya)],by omega,by go_num,HN.out,HPUT.out⟩
          case measure=>simp[intOf];omega
         ·obtain⟨a',hm'⟩:=A4K hf;have hlk:=P7 N8 underlying143 hAb.m hkey hm';have HV:Hid (H9 base l=7):=by
           have e1:=s6 hkl hms.out;rw[HY.out]at e1;simp only[hf,if_true]at e1;have e2:=A3u e1;have e3:=HST.out;unfold A1l at e3;rw[hz3.out,e2]at e3;exact A8V H4.out HV0.out HG.out (S8 e3)
          clear hf hA hAb hi hkey;go_wp2_with fail
          refine bodyPost_ret (v:=.tuple #[.agg #[.slice none 0 0,.int .i64 0,.map none],.int .i64 7]) (Cls.res2 (cs:=[.slice none 0 0,.int .i64 0,.map none]) (((HAB.out.r.set (k:=0) (by simp) _).set (k:=1) (by simp) _).set (k:=2) (by simp) _) rfl rfl rfl underlying145 rfl isz) rfl ⟨A9 (A9 (A9 HAB.out.keep (Nat.le_refl _) _ _) (Nat.le_refl _) _ _) (Nat.le_refl _) _ _,.inl ⟨by rw[HV.out];decide,by rw[HV.out]⟩⟩
        ·obtain rfl:k=oj.s.length:=by omega
         have HN:Hid (J0 base (l.take (j+1))=some ⟨st.p++[AT],AT+oj.b.length,ms⟩):=by
          have e1:=hms.out;rw[List.take_length]at e1;have e3:=HST.out;unfold A1l at e3;rw[hz3.out,e1]at e3;exact e3
         clear hA;go_wp2_with fail
         go_roundw
         case rel=>exact⟨j+1,⟨st.p++[AT],AT+oj.b.length,ms⟩,by omega,by go_num,HN.out,HAk.out⟩
         case measure=>simp[intOf];omega
      ·obtain rfl:j=l.length:=by omega
       have HST:Hid (J0 base l=some st):=by have:=hst.out;rwa[List.take_length]at this
       have HV:Hid (H9 base l=0):=A8Y H4.out HV0.out HG.out HST.out;obtain⟨o1,o2,o3,o4⟩:=hA.o;obtain⟨v,hi,hrow⟩:=hA.i;obtain⟨⟨i0,j0⟩,⟨i1,j1⟩,⟨i2,j2⟩⟩:=hi.three;obtain⟨⟨r0,f0⟩,⟨r1,f1⟩,⟨r2,f2⟩⟩:=hA.r.three;have HRow:=hid hrow;obtain⟨va,vc,rfl⟩:=hrow.shape;have hpl:Hid (st.p.length≤140737488351232):=by
        have:=(S7 (base:=base) (l:=l) (j:=l.length) (st:=st) (fun o ho=>by
         obtain⟨i,hi,rfl⟩:=List.getElem_of_mem ho;have h0:=HV0.out i hi;rw[List.getD_eq_getElem?_getD,List.getElem?_eq_getElem hi]at h0;by_cases g:8192<l[i].b.length∨64<l[i].s.length∨64<l[i].t.length
         ·have:F7 l[i]=3:=P3 g;simp at h0;omega
         ·omega) (Nat.le_refl _) (by rw[List.take_length];exact HST.out)).2.2
        show _≤_
        omega
       have hRM:¬w.heap.size=M+1:=by omega
       clear hA hi hrow;go_wp2_with fail
       refine bodyPost_ret (v:=.tuple #[.agg #[.slice va st.p.length vc,.int .i64 st.z,.map (some M)],.int .i64 0]) (Cls.res2 (cs:=[.slice va st.p.length vc,.int .i64 st.z,.map (some M)]) (((HA.out.r.set (k:=0) (by simp) _).set (k:=1) (by simp) _).set (k:=2) (by simp) _) rfl rfl rfl underlying145 rfl isz) rfl ⟨A9 (A9 (A9 HA.out.keep (Nat.le_refl _) _ _) (Nat.le_refl _) _ _) (Nat.le_refl _) _ _,.inr ⟨HV.out,st,.slice va st.p.length vc,M,HST.out,rfl,?_,?_⟩⟩
       ·refine RowI.ints (base:=M+1+1) (e:=3) ?_ hpl.out;refine L6 HRow.out fun k hk=>?_
        rw[Below.heap_setCell _ ⟨w.heap.size,2,none⟩ _ k (by show k≠w.heap.size;omega),Below.heap_setCell _ ⟨w.heap.size,1,none⟩ _ k (by show k≠w.heap.size;omega),Below.heap_setCell _ ⟨w.heap.size,0,none⟩ _ k (by show k≠w.heap.size;omega)]
       ·exact((HA.out.m.set (by omega)).set (by omega)).set (by omega)
theorem A0G{base:Int}(h:¬(base<0∨32768<base∨base.tmod 4≠0)):base.tmod 4=0:=by
 by_cases e:base.tmod 4=0
 ·exact e
 ·exact absurd (.inr (.inr e)) h
theorem s4{base:Int}{l:List Ob}(h:H9 base l=0):∃st,J0 base l=some st∧l.length≤4∧(∀o∈l,F7 o=0)∧0≤base∧base≤32768∧base.tmod 4=0:=by
 unfold H9 at h;by_cases h1:4<l.length
 ·rw[if_pos h1]at h;cases h
 ·rw[if_neg h1]at h;by_cases h2:N3 l≠0
  ·rw[if_pos h2]at h;exact absurd h h2
  ·rw[if_neg h2]at h;by_cases h3:base<0∨32768<base∨base.tmod 4≠0
   ·rw[if_pos h3]at h;cases h
   ·rw[if_neg h3]at h;cases h4:J0 base l with
    |none=>rw[h4]at h;cases h
    |some st=>exact⟨st,rfl,by omega,Z8 (by omega),by omega,by omega,A0G h3⟩
theorem A5i{o:Ob}(h:F7 o=0):o.b.length≤8192∧o.s.length≤64∧o.t.length≤64:=by
 by_cases g:8192<o.b.length∨64<o.s.length∨64<o.t.length
 ·rw[P3 g]at h;omega
 ·omega
theorem A2u{base:Int}{l:List Ob}{st:Im}(hl:l.length≤4)(hv:∀o∈l,F7 o=0)(h:J0 base l=some st):0≤st.z∧st.z≤32784∧st.p.length=l.length:=by
 have:=S7 (base:=base) (l:=l) (j:=l.length) (st:=st) (fun o ho=>(A5i (hv o ho)).1) (Nat.le_refl _) (by rw[List.take_length];exact h);omega
theorem b6{l:List Ob}{lv:Value}{base:Int}{w:World}{st:Im}(h:Obs w lv l)(hwf:∀o∈l,ObF o)(hE:H9 base l=0)(hst:J0 base l=some st):Calls prog 70 #[lv,.int .i64 base] w fun e w'=>
  ∃va vc M,e= .returned (.tuple #[.agg #[.slice va st.p.length vc,.int .i64 st.z,.map (some M)],.int .i64 0])∧Ints .i64 w' (.slice va st.p.length vc) st.p∧MapIs prog 3 w' M (g9 st.m)∧Below w.heap.size w w':=by
 refine(V5 l lv base w h hwf).mono fun e w' ⟨hb,hc⟩=>?_
 rcases hc with⟨h1,_⟩|⟨_,st',v,M,h1,rfl,h2,h3⟩
 ·exact absurd hE h1
 ·rw[hst]at h1;cases h1;obtain⟨va,vc,rfl,_⟩:=h2.shape2;exact⟨va,vc,M,rfl,h2,h3,hb⟩
theorem b7{l:List Ob}{lv:Value}{base:Int}{w:World}(h:Obs w lv l)(hwf:∀o∈l,ObF o)(hE:H9 base l≠0):Calls prog 70 #[lv,.int .i64 base] w fun e w'=>
  e= .returned (.tuple #[.agg #[.slice none 0 0,.int .i64 0,.map none],.int .i64 (H9 base l)])∧Below w.heap.size w w':=by
 refine(V5 l lv base w h hwf).mono fun e w' ⟨hb,hc⟩=>?_
 rcases hc with⟨_,h1⟩|⟨h1,_⟩
 ·exact⟨h1,hb⟩
 ·exact absurd h1 hE
def K7(m:List (Int×Int))(n:Int):Option Int:=(m.find? fun q=>q.1==n).map (·.2)
def T6(base:Int)(l:List Ob)(n:Int):Int×Bool×Int:=
 if H9 base l≠0 then(0,false,H9 base l)
 else match J0 base l with
  |none=>(0,false,0)
  |some st=>if 32768<base+st.z then(0,false,3)else match K7 st.m n with|some a=>(a,true,(0:Int))|none=>(0,false,(0:Int))
theorem U2{m:List (Int×Int)}{n a:Int}(h:K7 m n=some a):(Value.int .i64 n,Value.int .i64 a)∈g9 m:=by
 unfold K7 at h;cases hf:m.find? (fun q=>q.1==n)with
 |none=>rw[hf]at h;cases h
 |some q=>
  rw[hf]at h;cases h;have h1:=List.find?_some hf;have h2:=List.mem_of_find?_eq_some hf;refine List.mem_map.2 ⟨q,h2,?_⟩;have:q.1=n:=by simpa using h1
  rw[this]
theorem j4{m:List (Int×Int)}{n:Int}(h:K7 m n=none):m.any (fun q=>q.1==n)=false:=by
 unfold K7 at h;cases hf:m.find? (fun q=>q.1==n)with
 |some q=>rw[hf]at h;cases h
 |none=>
  rw[List.find?_eq_none]at hf;exact List.any_eq_false.2 fun q hq=>by simpa using hf q hq
set_option maxHeartbeats 2000000 in
theorem A3X(l:List Ob)(lv:Value)(base n:Int)(w:World)(h:Obs w lv l)(hwf:∀o∈l,ObF o)(hn:A8b n):Calls prog 33 #[lv,.int .i64 base,.int .i64 n] w fun e w'=>
  e= .returned (.tuple #[.int .i64 (T6 base l n).1,.bool (T6 base l n).2.1,.int .i64 (T6 base l n).2.2])∧Below w.heap.size w w':=by
 by_cases hE:H9 base l=0
 ·obtain⟨st,hst,hl4,hv,hb0,hb1,hb4⟩:=s4 hE;obtain⟨z0,z1,-⟩:=A2u hl4 hv hst;have C:=hid (b6 h hwf hE hst);have HP:Hid (T6 base l n=if 32768<base+st.z then((0:Int),false,(3:Int))else match K7 st.m n with|some a=>(a,true,(0:Int))|none=>(0,false,(0:Int))):=by
   show _=_
   unfold T6;rw[if_neg (by simpa using hE),hst]
  have hkey:=V0 hn;clear h hwf hE hst hv;cases g:decide (32768<base+st.z)
  case true=>
   have g':=of_decide_eq_true g;have HQ:Hid (T6 base l n=(0,false,3)):=by show _=_;rw[HP.out,if_pos g']
   go_enter func33,ntmps33;go_wp2_with(go_at_call 70;with_reducible refine C.out.mono ?_;rintro e w1 ⟨va,vc,M,rfl,hi,hm,hb⟩;have HB:=hid (hb.alloc hb.size (.cells #[.slice va st.p.length vc,.int .i64 st.z,.map (some M)] 145));clear hi hm hb)
   refine bodyPost_ret (v:=.tuple #[.int .i64 0,.bool false,.int .i64 3]) (by simp[results,results33,go_sem]) rfl ⟨by rw[HQ.out],HB.out⟩
  case false=>
   have g':=of_decide_eq_false g;cases hk:K7 st.m n with
   |none=>
    have HQ:Hid (T6 base l n=(0,false,0)):=by show _=_;rw[HP.out,if_neg g',hk]
    have hmiss:=Q6 (j4 hk);clear hk;go_enter func33,ntmps33;go_wp2_with(go_at_call 70;with_reducible refine C.out.mono ?_;rintro e w1 ⟨va,vc,M,rfl,hi,hm,hb⟩;have HB:=hid (hb.alloc hb.size (.cells #[.slice va st.p.length vc,.int .i64 st.z,.map (some M)] 145));have hlk:=R7 N8 underlying143 (z:=.int .i64 0) (fun w=>by kernel_rfl) (hm.below ((Below.refl _ _).alloc (Nat.le_refl _) (.cells #[.slice va st.p.length vc,.int .i64 st.z,.map (some M)] 145))) hkey hmiss;clear hi hm hb hmiss)
    refine bodyPost_ret (v:=.tuple #[.int .i64 0,.bool false,.int .i64 0]) (by simp[results,results33,go_sem]) rfl ⟨by rw[HQ.out],HB.out⟩
   |some a=>
    have HQ:Hid (T6 base l n=(a,true,0)):=by show _=_;rw[HP.out,if_neg g',hk]
    have hhit:=U2 hk;clear hk;go_enter func33,ntmps33;go_wp2_with(go_at_call 70;with_reducible refine C.out.mono ?_;rintro e w1 ⟨va,vc,M,rfl,hi,hm,hb⟩;have HB:=hid (hb.alloc hb.size (.cells #[.slice va st.p.length vc,.int .i64 st.z,.map (some M)] 145));have hlk:=P7 N8 underlying143 (hm.below ((Below.refl _ _).alloc (Nat.le_refl _) (.cells #[.slice va st.p.length vc,.int .i64 st.z,.map (some M)] 145))) hkey hhit;clear hi hm hb hhit)
    refine bodyPost_ret (v:=.tuple #[.int .i64 a,.bool true,.int .i64 0]) (by simp[results,results33,go_sem]) rfl ⟨by rw[HQ.out],HB.out⟩
 ·have C:=hid (b7 h hwf hE);have HQ:Hid (T6 base l n=(0,false,H9 base l)):=if_pos hE;have hne:(H9 base l !=0)=true:=by simpa[bne]using hE
  clear h hwf hE;generalize H9 base l=ev at*
  go_enter func33,ntmps33;go_wp2_with(go_at_call 70;with_reducible refine C.out.mono ?_;rintro e w1 ⟨rfl,hb⟩;have HB:=hid (hb.alloc hb.size (.cells #[.slice none 0 0,.int .i64 0,.map none] 145));clear hb)
  refine bodyPost_ret (v:=.tuple #[.int .i64 0,.bool false,.int .i64 ev]) (by simp[results,results33,go_sem]) rfl ⟨by rw[HQ.out],HB.out⟩
end Go.Proofs.YtajljbmeaeeknaaGreat
