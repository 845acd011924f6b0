/- -/
import Derived.Deep.AppendLies
import Derived.Deep.QuietTactic
import Derived.Deep.Onto
import Derived.Maps.AppendAt
import Derived.Laws.AppendOwnNone
import Derived.Test.YtajljbmeaeeknaaGreatA2
import Derived.Test.YtajljbmeaeeknaaGreatA4
import Derived.Test.YtajljbmeaeeknaaGreatA5
open Go.Proofs.Tryz
open Go.Lib (hid)
set_option maxRecDepth 100000
namespace Go.Proofs.YtajljbmeaeeknaaGreat
open Go.RowKit Go.Maps
set_option linter.unusedVariables false
set_option linter.unusedSimpArgs false
theorem A6R(c t s:Int):opR c t s=41∨(0≤opR c t s∧opR c t s≤38):=by
 unfold opR
 repeat' split
 all_goals omega
theorem I4(x:Int)(x0:0≤x)(x1:x<4294967296)(r:Nat)(w:World)(hd:DecIs w r 39):Calls prog 57 #[.map (some r),.int .u32 x] w fun e w'=>e= .returned (dcV x)∧Below w.heap.size w w':=by
 unfold dcV P8;by_cases h1:x=115
 ·subst h1;rw[if_pos rfl];exact A2d r w
 rw[if_neg h1];by_cases h2:x=1048691
 ·subst h2;rw[if_pos rfl];exact A3d r w
 rw[if_neg h2];have n1:(x==115)=false:=by simpa using h1
 have n2:(x==1048691)=false:=by simpa using h2
 rcases A6R (x%128) (x / 4096%8) (x / 33554432)with h|⟨o0,o1⟩
 ·rw[if_pos h];exact A2c x x0 x1 r w hd n1 n2 h
 ·rw[if_neg (by omega)];obtain⟨o,ho⟩:∃o,opR (x%128) (x / 4096%8) (x / 33554432)=o:=⟨_,rfl⟩
  rw[ho]at o0 o1⊢;have key:Calls prog 57 #[.map (some r),.int .u32 x] w fun e w'=>e= .returned (if C7 (fdR o x)=x then .tuple #[RvV (fdR o x),.bool true]else .tuple #[RvV rv0,.bool false])∧Below w.heap.size w w':=by
   rcases(show(0≤o∧o≤14)∨(15≤o∧o≤20)∨(21≤o∧o≤23)∨(24≤o∧o≤24)∨(25≤o∧o≤27)∨(28≤o∧o≤30)∨(31≤o∧o≤36)∨(37≤o∧o≤37)∨(38≤o∧o≤38)by omega)with⟨a,b⟩|⟨a,b⟩|⟨a,b⟩|⟨a,b⟩|⟨a,b⟩|⟨a,b⟩|⟨a,b⟩|⟨a,b⟩|⟨a,b⟩
   ·exact A5T x x0 x1 r w hd n1 n2 o a b ho
   ·exact A5S x x0 x1 r w hd n1 n2 o a b ho
   ·exact A5R x x0 x1 r w hd n1 n2 o a b ho
   ·exact A5Q x x0 x1 r w hd n1 n2 o a b ho
   ·exact A5P x x0 x1 r w hd n1 n2 o a b ho
   ·exact A5O x x0 x1 r w hd n1 n2 o a b ho
   ·exact A5N x x0 x1 r w hd n1 n2 o a b ho
   ·exact A5M x x0 x1 r w hd n1 n2 o a b ho
   ·exact A5L x x0 x1 r w hd n1 n2 o a b ho
  by_cases e:C7 (fdR o x)=x
  ·rw[if_pos e]at key⊢;exact key
  ·rw[if_neg e]at key⊢;exact key
theorem A1R(x:Int):∃y b,dcV x= .tuple #[RvV y,.bool b]∧((b=true∧P8 x=some y)∨(b=false∧P8 x=none∧y=rv0)):=by
 unfold dcV;cases P8 x with
 |none=>exact⟨_,_,rfl,.inr ⟨rfl,rfl,rfl⟩⟩
 |some y=>exact⟨_,_,rfl,.inl ⟨rfl,rfl⟩⟩
set_option maxHeartbeats 2000000 in
theorem A0k(x:Int)(x0:0≤x)(x1:x<4294967296)(w:World):Calls prog 22 #[.int .u32 x] w fun e w'=>e= .returned (dcV x)∧Below w.heap.size w w':=by
 obtain⟨y,b,e,-⟩:=A1R x;have CD:=hid (fun(r:Nat) (wk:World) (h:DecIs wk r 39)=>I4 x x0 x1 r wk h);rw[e]at CD;rw[e];clear e x0 x1;have CN:=hid R4;obtain⟨yo,yd,ya,yb,yi⟩:=y;have CD2:Hid (∀(r:Nat) (wk:World),DecIs wk r 39→Calls prog 57 #[.map (some r),.int .u32 x] wk fun e w'=>e= .returned (.tuple #[.agg #[.int .i64 yo,.int .i64 yd,.int .i64 ya,.int .i64 yb,.int .i64 yi],.bool b])∧Below wk.heap.size wk w'):=CD;clear CD;have HC0:Hid (Cls (w.alloc (.cells #[.int .i64 0,.int .i64 0,.int .i64 0,.int .i64 0,.int .i64 0] 75)) w.heap.size (rvC rv0)):=hid Cls.made;have BB:Hid (Below w.heap.size w (w.alloc (.cells #[.int .i64 0,.int .i64 0,.int .i64 0,.int .i64 0,.int .i64 0] 75))):=hid ((Below.refl _ _).alloc (Nat.le_refl _) _);go_enter func22,ntmps22;go_wp2_with(first|(go_at_call 56;(with_reducible refine(CN.out _).mono ?_);rintro e w1 ⟨rfl,hd,hb1⟩;rw[World.size_alloc]at hd;have HD:=hid hd;have HB1:=hid hb1;clear hd hb1)|(go_at_call 57;(with_reducible refine(CD2.out _ _ HD.out).mono ?_);rintro e w2 ⟨rfl,hb2⟩;have hb3:Below (w.heap.size+1) (w.alloc (.cells #[.int .i64 0,.int .i64 0,.int .i64 0,.int .i64 0,.int .i64 0] 75)) w2:=(by have h1:=HB1.out;rw[World.size_alloc]at h1;exact h1.trans (hb2.mono (by have h2:=h1.size;rwa[World.size_alloc]at h2)));have HC:=hid (HC0.out.below (Nat.lt_succ_self _) hb3);have HB:=hid (BB.out.trans (hb3.mono (Nat.le_succ _)));clear hb2 hb3;obtain⟨⟨c0,c1,c2,c3,c4⟩,f0,f1,f2,f3,f4⟩:=HC.out.five))
 refine bodyPost_ret (v:=.tuple #[.agg #[.int .i64 yo,.int .i64 yd,.int .i64 ya,.int .i64 yb,.int .i64 yi],.bool b]) (Cls.res2 (cs:=rvC ⟨yo,yd,ya,yb,yi⟩) (((((HC.out.set (k:=0) (by simp[rvC]) _).set (k:=1) (by simp[rvC]) _).set (k:=2) (by simp[rvC]) _).set (k:=3) (by simp[rvC]) _).set (k:=4) (by simp[rvC]) _) rfl rfl rfl underlying75 rfl (by kernel_rfl)) rfl ⟨rfl,A6 (A6 (A6 (A6 (A6 HB.out (Nat.le_refl _) _ _) (Nat.le_refl _) _ _) (Nat.le_refl _) _ _) (Nat.le_refl _) _ _) (Nat.le_refl _) _ _⟩
theorem A3G{w w':World}{base:Nat}{e:TypeId}{z:Nat}{v:Value}{n:Nat}{xs:List Value}(h:w.ownsRow base e z v n xs)(hb:∀g,v.ownBlock=some g→g<w.heap.size→w'.heap[g]? =w.heap[g]?):w'.ownsRow base e z v n xs:=by
 obtain⟨h0,⟨e,h1⟩|⟨g,cap,cur,e,hb',hg,h1,h2,h3,h4⟩⟩:=h
 ·exact⟨h0,Or.inl ⟨e,h1⟩⟩
 ·have hlt:g<w.heap.size:=by
   rcases Nat.lt_or_ge g w.heap.size with h|h
   ·exact h
   ·rw[Array.getElem?_eq_none h]at hg;cases hg
  exact⟨h0,Or.inr ⟨g,cap,cur,e,hb',by rw[hb g (by rw[e];rfl) hlt];exact hg,h1,h2,h3,h4⟩⟩
def RowG{α:Type}(C:α→List Value)(w:World)(base:Nat)(e:TypeId)(z:Nat)(v:Value)(xs:List α):Prop:=w.ownsRow base e z v xs.length (xs.flatMap C)
theorem A2R{α:Type}[Inhabited α]{C:α→List Value}{z:Nat}(hC:∀x,(C x).length=z):∀(xs:List α) (i j:Nat),i<xs.length→j<z→(xs.flatMap C)[i*z+j]? =(C (xs.getD i default))[j]?
 |[],i,j,h,_=>absurd h (Nat.not_lt_zero _)
 |x::r,0,j,_,hj=>by
  rw[List.flatMap_cons,List.getElem?_append_left (by rw[hC];omega)];simp
 |x::r,i+1,j,h,hj=>by
  rw[List.flatMap_cons,List.getElem?_append_right (by rw[hC,Nat.add_mul];omega)];have e:(i+1)*z+j-(C x).length=i*z+j:=by rw[hC,Nat.add_mul];omega
  rw[e,A2R hC r i j (by simpa using h) hj];simp
theorem RowG.slc{α:Type}[Inhabited α]{C:α→List Value}{w:World}{base:Nat}{e:TypeId}{z:Nat}{v:Value}{xs:List α}(h:RowG C w base e z v xs)(hC:∀x,(C x).length=z)(hz:0<z)(hl:xs.length≤100000):Slc w v xs.length z fun i b o=>∀j,j<z→w.cell? ⟨b,o+j,none⟩=(C (xs.getD i default))[j]? :=by
 obtain⟨h0,⟨e,h1⟩|⟨g,cap,cur,e,hb',hg,h1,h2,h3,h4⟩⟩:=h
 ·exact⟨none,0,by rw[e,h1],by omega,⟨by omega,by omega⟩,fun _=>rfl,fun i hi=>absurd hi (by omega)⟩
 ·have hlt:g<w.heap.size:=by
   rcases Nat.lt_or_ge g w.heap.size with h|h
   ·exact h
   ·rw[Array.getElem?_eq_none h]at hg;cases hg
  refine⟨some ⟨g,0,none⟩,cap,e,h1,⟨by omega,by unfold maxLen at h2;omega⟩,(fun hh=>by cases hh),fun i hi=>⟨g,0,rfl,hlt,?_⟩⟩;rw[Nat.zero_add];intro j hj;have hij:i*z+j<xs.length*z:=by
   have:(i+1)*z≤xs.length*z:=Nat.mul_le_mul_right z hi;rw[Nat.add_mul]at this;omega
  have e1:w.cell? ⟨g,i*z+j,none⟩=cur.toList[i*z+j]? :=by simp[World.cell?,hg]
  have e2:(cur.toList.take (xs.length*z))[i*z+j]? =cur.toList[i*z+j]? :=by rw[List.getElem?_take,if_pos hij]
  rw[e1,←e2,h4];exact A2R hC xs i j hi hj
theorem RowG.nil{α:Type}(C:α→List Value)(w:World)(base:Nat)(e:TypeId)(z:Nat):RowG C w base e z (.slice none 0 0) []:=World.ownsRow_nil w base e z
theorem RowG.snoc{α:Type}{C:α→List Value}{w:World}{base:Nat}{e:TypeId}{z:Nat}{v:Value}{xs:List α}{x:α}(h:w.ownsRow base e z v (xs.length+1) (xs.flatMap C++C x)):RowG C w base e z v (xs++[x]):=by
 unfold RowG;rw[List.length_append,List.flatMap_append];simpa using h
def w4(l:List Int)(k:Nat):Int:=l.getD k 0+l.getD (k+1) 0*256+l.getD (k+2) 0*65536+l.getD (k+3) 0*16777216
theorem Q9{l:List Int}(h:Byt l)(k:Nat):0≤w4 l k∧w4 l k<4294967296:=by
 have h0:=h k;have h1:=h (k+1);have h2:=h (k+2);have h3:=h (k+3);unfold w4;omega
set_option maxHeartbeats 2000000 in
theorem A2w(l:List Int)(v:Value)(k:Nat)(w:World)(hv:Ints .u8 w v l)(hb:Byt l)(hk:k+4≤l.length):Calls prog 63 #[v,.int .i64 (k:Int)] w fun e w'=>e= .returned (.int .u32 (w4 l k))∧Dr w w':=by
 obtain⟨va,vc,rfl,hl1,hl2⟩:=hv.shape;obtain⟨b,q,rfl,hlt,hc⟩:=hv.row (by omega);have c0:=hc k (by omega);have c1:=hc (k+1) (by omega);have c2:=hc (k+2) (by omega);have c3:=hc (k+3) (by omega);obtain⟨⟨a0,a1⟩,⟨b0,b1⟩,⟨d0,d1⟩,⟨e0,e1⟩⟩:(_∧_)∧(_∧_)∧(_∧_)∧(_∧_):=⟨hb k,hb (k+1),hb (k+2),hb (k+3)⟩
 obtain⟨V,hV⟩:∃V,w4 l k=V:=⟨_,rfl⟩
 rw[hV];unfold w4 at hV;generalize l.getD k 0=y0 at*
 generalize l.getD (k+1) 0=y1 at*
 generalize l.getD (k+2) 0=y2 at*
 generalize l.getD (k+3) 0=y3 at*
 obtain⟨A1,hA1⟩:∃x,y0+y1*256=x:=⟨_,rfl⟩
 obtain⟨A2,hA2⟩:∃x,A1+y2*65536=x:=⟨_,rfl⟩
 have r1:bits .or .u32 y0 (y1*256)=A1:=by rw[←hA1];exact B9 8 rfl (by omega) (by omega) (by omega) (by omega)
 have r2:bits .or .u32 A1 (y2*65536)=A2:=by rw[←hA2];exact B9 16 rfl (by omega) (by omega) (by omega) (by omega)
 have r3:bits .or .u32 A2 (y3*16777216)=V:=by rw[show V=A2+y3*16777216 by omega];exact B9 24 rfl (by omega) (by omega) (by omega) (by omega)
 have k1':IntKind.i64.wrap ((k:Int)+1)=((k+1:Nat):Int):=by rw[IntWalk.i64_left];exact IntWalk.wrap64_in _ (by omega)
 have k2':IntKind.i64.wrap ((k:Int)+2)=((k+2:Nat):Int):=by rw[IntWalk.i64_left];exact IntWalk.wrap64_in _ (by omega)
 have k3':IntKind.i64.wrap ((k:Int)+3)=((k+3:Nat):Int):=by rw[IntWalk.i64_left];exact IntWalk.wrap64_in _ (by omega)
 have i0:(0:Int)≤(k:Int):=by omega
 have j0:(k:Int)<(l.length:Int):=by omega
 have j1:((k+1:Nat):Int)<(l.length:Int):=by omega
 have j2:((k+2:Nat):Int)<(l.length:Int):=by omega
 have j3:((k+3:Nat):Int)<(l.length:Int):=by omega
 have i1:(0:Int)≤((k+1:Nat):Int):=by omega
 have i2:(0:Int)≤((k+2:Nat):Int):=by omega
 have i3:(0:Int)≤((k+3:Nat):Int):=by omega
 clear hA1 hA2 hV hv hb hc;go_enter func63,ntmps63;go_upto_region 1 with fail
 go_outline
 go_quiet(fail)
 go_wp2_with fail
 go_ret;exact⟨rfl,⟨_,rfl⟩⟩
theorem A5c(b o j:Nat):(⟨b,o,none⟩:Addr).add j=⟨b,o+j,none⟩:=by by_cases hj:j=0<;>simp[Addr.add,hj]
theorem A6l:(prog.info? 5).map (fun i=>(i.zero,i.size,i.bytes))=some (some (.int .u8 0),1,1):=by kernel_rfl
theorem A5a{w:World}{ops:Array Oper}{rest:List Oper}{o:Oper}{a:Act}{Q:Exit→Act→World→Prop}(hgd:o.guard=none)(s x:Operand)
  (ho:o.op= .call {callee:=.builtin .append,args:=#[s,x],argTypes:=#[28,28]}) (base:Nat) (v:Value) (xs:List Int) (hs:a.eval s=v) (hown:RowI w base 5 .u8 v xs)
  (g m c:Nat) (ys:List Int) (hm:ys.length=m) (hx:a.eval x= .slice (some ⟨g,0,none⟩) m c) (hy:∀j,j<m→w.cell? ⟨g,j,none⟩=some (.int .u8 (ys.getD j 0))) (hl:xs.length+m≤100000) (hbase:base≤w.heap.size)
  (h:∀v' w',RowI w' base 5 .u8 v' (xs++ys)→Below base w w'→w.grownBy w' v.ownBlock→wpList prog ops Q rest (a.put o.dst v') w'):wpList prog ops Q (o::rest) a w:=by
 obtain⟨i0,hi0,hz0,hz1,hz2⟩:=info_parts A6l;refine wpList_append_own (P:=prog) w hgd s x _ ho base 5 i0 (.int .u8 0) 1 1 underlying28 hi0 hz0 hz1 hz2 rfl (by decide) v xs.length _ hs hown ⟨g,0,none⟩ m c (ys.map (Value.int .u8)) hx (by simp[hm]) (fun j u hj=>?_) (fun u hu=>?_) ?_ ?_ hbase ?_
 ·have hjl:j<ys.length:=by
   rcases Nat.lt_or_ge j ys.length with h|h
   ·exact h
   ·rw[List.getElem?_eq_none (by simpa using h)]at hj;cases hj
  rw[List.getElem?_map,List.getElem?_eq_getElem hjl]at hj;cases hj;rw[A5c,Nat.zero_add,hy j (by omega),List.getD_eq_getElem?_getD,List.getElem?_eq_getElem hjl];rfl
 ·obtain⟨y,_,rfl⟩:=List.mem_map.1 hu;rfl
 ·unfold maxLen;omega
 ·omega
 ·intro v' w' hown' hg _;exact h v' w' (RowI.app hown' (by rw[hm]) rfl) ((Below.refl _ _).grown hg hbase (V1 hown)) hg
theorem RowI.base{w:World}{base base':Nat}{e:TypeId}{k:IntKind}{v:Value}{xs:List Int}(h:RowI w base e k v xs)(hb:base'≤base):RowI w base' e k v xs:=World.ownsRow.mono h hb
def by4(e:Int):List Int:=[e%256,e / 256%256,e / 65536%256,e / 16777216%256]
def Q4(xs:List Rv):List Int:=xs.flatMap fun x=>by4 (C7 x)
def A3o(xs:List Rv):Prop:=∀x∈xs,okR x=true
theorem A0g(xs:List Rv)(x:Rv):Q4 (xs++[x])=Q4 xs++by4 (C7 x):=by unfold Q4;simp
theorem A0H(xs:List Rv):(Q4 xs).length=4*xs.length:=by
 induction xs with
 |nil=>rfl
 |cons x r ih=>unfold Q4 at ih⊢;simp only[List.flatMap_cons,List.length_append,ih,List.length_cons];unfold by4;simp;omega
theorem A9x{xs:List Rv}{j:Nat}(h:j<xs.length):xs.take (j+1)=xs.take j++[xs.getD j default]:=by
 rw[List.take_add_one,List.getElem?_eq_getElem h,List.getD_eq_getElem?_getD,List.getElem?_eq_getElem h];rfl
def B3A(w:World)(b o:Nat)(x:Rv):Prop:=
 w.cell? ⟨b,o,none⟩=some (.int .i64 x.o)∧w.cell? ⟨b,o+1,none⟩=some (.int .i64 x.d)∧w.cell? ⟨b,o+2,none⟩=some (.int .i64 x.a)∧w.cell? ⟨b,o+3,none⟩=some (.int .i64 x.b)∧w.cell? ⟨b,o+4,none⟩=some (.int .i64 x.i)
def Rvs(w:World)(v:Value)(xs:List Rv):Prop:=Slc w v xs.length 5 fun i b o=>B3A w b o (xs.getD i default)
theorem Rvs.stays{w w':World}{v:Value}{xs:List Rv}(h:Rvs w v xs)(hb:Below w.heap.size w w'):Rvs w' v xs:=
 Slc.stays h hb fun _ _ _ hlt hc=>⟨A0 hb hlt hc.1,A0 hb hlt hc.2.1,A0 hb hlt hc.2.2.1,A0 hb hlt hc.2.2.2.1,A0 hb hlt hc.2.2.2.2⟩
theorem Rvs.shape{w:World}{v:Value}{xs:List Rv}(h:Rvs w v xs):∃a c,v= .slice a xs.length c∧xs.length≤c∧xs.length≤140737488351232:=by
 obtain⟨a,c,e,h1,h2,_⟩:=h;exact⟨a,c,e,h1,h2.1⟩
theorem Rvs.at{w:World}{v:Value}{xs:List Rv}(h:Rvs w v xs){j:Nat}(hj:j<xs.length):∃b q c,v= .slice (some ⟨b,q,none⟩) xs.length c∧xs.length≤c∧b<w.heap.size∧B3A w b (q+j*5) (xs.getD j default):=by
 obtain⟨a,c,e,h1,h2,h3,h4⟩:=h;obtain⟨b,q,rfl,h5,h6⟩:=h4 j hj;exact⟨b,q,c,e,h1,h5,h6⟩
def ByP(xs:List Rv)(w:World)(e:Ending)(w':World):Prop:=
 Below w.heap.size w w'∧∃u E,e= .returned (.tuple #[u,.int .i64 E])∧((A3o xs∧E=0∧RowI w' w.heap.size 5 .u8 u (Q4 xs))∨(¬A3o xs∧E=1))
set_option maxHeartbeats 2000000 in
theorem s9(xs:List Rv)(v:Value)(w:World)(hv:Rvs w v xs)(hlen:xs.length≤10000):Calls prog 24 #[v] w (ByP xs w):=by
 have HV:=hid hv;obtain⟨va,vc,rfl,hl1,hl2⟩:=hv.shape;clear hv;go_enter func24,ntmps24;go_wp2_with fail
 go_loopw[4,11] (fun u i wr=>∃j:Nat,j≤xs.length∧i= .int .i64 j∧RowI wr w.heap.size 5 .u8 u (Q4 (xs.take j))∧Hid (∀k,k<j→okR (xs.getD k default)=true)∧Since w wr) (fun _ i _=>xs.length-(intOf i).toNat)
 case atStart=>exact⟨0,Nat.zero_le _,rfl,RowI.nil _ _ _ _,hid (fun k h=>absurd h (Nat.not_lt_zero _)),Since.refl _⟩
 case round=>
  obtain⟨j,hj,rfl,hrow,hok,hs⟩:=hrel;by_cases hlt:j<xs.length
  ·obtain⟨b,q,c,e',hc,hb,x0,x1,x2,x3,x4⟩:=(HV.out.stays hs).at hlt;cases e';have CE:=hid (T8 (xs.getD j default));have HEQ:Hid (okR (xs.getD j default)=true→Q4 (xs.take j)++by4 (C7 (xs.getD j default))=Q4 (xs.take (j+1))):=hid (fun _=>by rw[A9x hlt,A0g]);have HBL:Hid ((Q4 (xs.take j)).length≤40000):=hid (by rw[A0H,List.length_take];omega);obtain⟨x,hx⟩:∃x,xs.getD j default=x:=⟨_,rfl⟩
   have hbd:okR x=true→0≤C7 x∧C7 x<4294967296:=fun h=>A7W h
   obtain⟨E,hE⟩:∃E,C7 x=E:=⟨_,rfl⟩
   have hec:okR x=true→ecR x=E:=fun h=>by unfold ecR;rw[if_pos h];exact hE
   have her:erR x=if okR x=true then 0 else 1:=rfl
   rw[hx]at x0 x1 x2 x3 x4 CE HEQ;rw[hE]at HEQ hbd;have HX:=hid hx;have HS:=hid hs;have HROW:=hid hrow;have HSZ:=hs.size;clear hx hs hrow hE;generalize Q4 (xs.take j)=bs at*
   obtain⟨xo,xd,xa,xb,xi⟩:=x;have CE2:Hid (∀wk,Calls prog 21 #[.agg #[.int .i64 xo,.int .i64 xd,.int .i64 xa,.int .i64 xb,.int .i64 xi]] wk fun e w'=>e= .returned (.tuple #[.int .u32 (ecR ⟨xo,xd,xa,xb,xi⟩),.int .i64 (erR ⟨xo,xd,xa,xb,xi⟩)])∧Below wk.heap.size wk w'):=CE;clear CE;have hlt':(j:Int)<xs.length:=Int.ofNat_lt.2 hlt;have hwj:IntKind.i64.wrap ((j:Int)+1)=((j+1:Nat):Int):=by rw[IntWalk.i64_left];exact IntWalk.wrap64_in _ (by omega)
   cases ho:okR ⟨xo,xd,xa,xb,xi⟩
   ·rw[show erR ⟨xo,xd,xa,xb,xi⟩=1 by rw[her,ho];rfl]at CE2;have HNO:Hid (¬A3o xs):=hid (fun h=>by
     have h1:=h (xs.getD j default) (by rw[List.getD_eq_getElem?_getD,List.getElem?_eq_getElem hlt];exact List.getElem_mem hlt);rw[HX.out,ho]at h1;cases h1)
    clear hec her hbd HEQ ho hlt;generalize ecR ⟨xo,xd,xa,xb,xi⟩=ec at*
    go_wp2_with(go_at_call 21;(with_reducible refine(CE2.out _).mono ?_);rintro e w1 ⟨rfl,hb1⟩)
    go_ret2
    exact⟨A7 HS.out (A7 ((Below.refl _ _).alloc (Nat.le_refl _) _) hb1),_,_,rfl,.inr ⟨HNO.out,rfl⟩⟩
   ·rw[show erR ⟨xo,xd,xa,xb,xi⟩=0 by rw[her,ho];rfl,hec ho]at CE2;have HEQ2:=hid (HEQ.out ho);obtain⟨hb0,hb1⟩:=hbd ho;have HO:Hid (∀k,k<j+1→okR (xs.getD k default)=true):=hid (fun k hk=>by
     by_cases e:k=j
     ·rw[e,HX.out];exact ho
     ·exact hok.out k (by omega))
    clear hec her hbd HEQ ho;go_wp2_with(first|(go_at_call 21;(with_reducible refine(CE2.out _).mono ?_);rintro e w1 ⟨rfl,hb1'⟩;have HB1:=hid (A7 ((Below.refl wr.heap.size wr).alloc (Nat.le_refl _) _) hb1');clear hb1';have hw1:=HB1.out.size)|(at_builtin;refine A5a rfl _ _ rfl w.heap.size _ _ rfl ((HROW.out.below HB1.out).below ((Below.refl _ _).alloc (Nat.le_refl _) _)) w1.heap.size 4 4 (by4 E) rfl rfl (fun k hk=>?_) (by have:=HBL.out;omega) (by simp;omega) (fun v' w4 hr4 hb4 hg4=>?_)))
    ·rcases(show k=0∨k=1∨k=2∨k=3 by omega)with rfl|rfl|rfl|rfl<;>simp[go_sem,by4]
     omega
    ·have HR4:=hid hr4;have HB4:=hid hb4;clear hr4 hb4 hg4;go_wp2_with fail
     go_roundw
     case rel=>exact⟨j+1,by omega,rfl,(by rw[←HEQ2.out];exact HR4.out),HO,(A7 (A7 HS.out HB1.out) ((Below.refl _ _).alloc (Nat.le_refl _) _)).trans HB4.out⟩
     case measure=>simp[intOf];omega
  ·obtain rfl:j=xs.length:=by omega
   have HROW:Hid (RowI wr w.heap.size 5 .u8 _ (Q4 xs)):=hid (by rw[List.take_length]at hrow;exact hrow);have HS:=hid hs;clear hrow hs;go_wp2_with fail
   go_ret2
   refine⟨HS.out,_,_,rfl,.inl ⟨fun x hx=>?_,rfl,HROW.out⟩⟩;obtain⟨k,hk,rfl⟩:=List.mem_iff_getElem.1 hx;have:=hok.out k hk;rw[List.getD_eq_getElem?_getD,List.getElem?_eq_getElem hk]at this;exact this
theorem A8p:(prog.info? 75).map (fun i=>(i.zero,i.size,i.bytes))=some (some (.agg #[.int .i64 0,.int .i64 0,.int .i64 0,.int .i64 0,.int .i64 0]),5,40):=by kernel_rfl
def RowR(w:World)(base:Nat)(v:Value)(xs:List Rv):Prop:=RowG rvC w base 75 5 v xs
theorem RowR.below{w w':World}{base:Nat}{v:Value}{xs:List Rv}(h:RowR w base v xs)(hb:Below w.heap.size w w'):RowR w' base v xs:=A3G h fun g _ hl=>hb.block g hl
theorem RowR.snoc{w:World}{base:Nat}{v:Value}{xs:List Rv}(x:Rv)(h:w.ownsRow base 75 5 v (xs.length+1) (xs.flatMap rvC++rvC x)):RowR w base v (xs++[x]):=RowG.snoc h
theorem RowR.shape{w:World}{base:Nat}{v:Value}{xs:List Rv}(h:RowR w base v xs):∃a c,v= .slice a xs.length c:=by
 obtain⟨h0,⟨e,h1⟩|⟨g,cap,cur,e,h⟩⟩:=h
 ·exact⟨none,0,by rw[e,h1]⟩
 ·exact⟨_,_,e⟩
theorem RowR.rvs{w:World}{base:Nat}{v:Value}{xs:List Rv}(h:RowR w base v xs)(hl:xs.length≤100000):Rvs w v xs:=by
 have h1:=RowG.slc h (fun _=>rfl) (by decide) hl;obtain⟨a,c,e,h1,h2,h3,h4⟩:=h1;refine⟨a,c,e,h1,h2,h3,fun i hi=>?_⟩;obtain⟨b,o,e2,h5,h6⟩:=h4 i hi;refine⟨b,o,e2,h5,?_⟩;exact⟨h6 0 (by decide),h6 1 (by decide),h6 2 (by decide),h6 3 (by decide),h6 4 (by decide)⟩
theorem DecIs.below{w w':World}{r n:Nat}(h:DecIs w r n)(hb:Below w.heap.size w w'):DecIs w' r n:=MapIs.below h hb
def LiH(l:List Int)(done:List Rv):Prop:=4*done.length≤l.length∧∀j,j<done.length→P8 (w4 l (4*j))=some (done.getD j default)
theorem LiH.step{l:List Int}{done:List Rv}{x:Rv}(h:LiH l done)(hk:4*done.length+4≤l.length)(hd:P8 (w4 l (4*done.length))=some x):LiH l (done++[x]):=by
 refine⟨by simp;omega,fun j hj=>?_⟩;rw[List.length_append,List.length_singleton]at hj;rw[List.getD_eq_getElem?_getD];rcases Nat.lt_or_ge j done.length with h1|h1
 ·rw[List.getElem?_append_left h1,←List.getD_eq_getElem?_getD];exact h.2 j h1
 ·obtain rfl:j=done.length:=by omega
  rw[hd];simp
def LiP(l:List Int)(w:World)(e:Ending)(w':World):Prop:=
 Below w.heap.size w w'∧∃(u:Value) (done:List Rv),e= .returned (.tuple #[u,.int .i64 (4*(done.length:Int))])∧RowR w' w.heap.size u done∧LiH l done∧(l.length<4*done.length+4∨P8 (w4 l (4*done.length))=none)
set_option maxHeartbeats 2000000 in
theorem z7(l:List Int)(v:Value)(w:World)(hv:Ints .u8 w v l)(hby:Byt l)(hlen:l.length≤50000):Calls prog 25 #[v] w (LiP l w):=by
 obtain⟨n0,hn0,hy0,hy1,hy2⟩:=info_parts A8p;have HV:=hid hv;have HBY:=hid hby;obtain⟨va,vc,rfl,hl1,hl2⟩:=hv.shape;have CN:=hid R4;clear hv hby;go_enter func25,ntmps25;go_wp2_with(go_at_call 56;(with_reducible refine(CN.out _).mono ?_);rintro e w1 ⟨rfl,hd,hb1⟩;have HD:=hid hd;have HB1:=hid hb1;have hd1:=hd.1;clear hd hb1)
 clear CN
 go_loopw[5,6] (fun u i wr=>∃done:List Rv,i= .int .i64 ((4*done.length:Nat):Int)∧LiH l done∧RowR wr w1.heap.size u done∧Since w1 wr) (fun _ i _=>l.length+4-(intOf i).toNat)
 case atStart=>exact⟨[],rfl,⟨Nat.zero_le _,fun j hj=>absurd hj (Nat.not_lt_zero _)⟩,RowG.nil _ _ _ _ _,Since.refl _⟩
 case round=>
  obtain⟨done,rfl,hli,hrow,hs⟩:=hrel;have HLI:=hid hli;have hat:=hli.1;have HROW:=hid hrow;have HS:=hid hs;have hsz:=hs.size;obtain⟨ua,uc,rfl⟩:=hrow.shape;clear hli hrow hs;obtain⟨k,hk⟩:∃k,4*done.length=k:=⟨_,rfl⟩
  have HK:=hid hk;rw[hk]at hat⊢;have hw:IntKind.i64.wrap ((k:Int)+4)=(k:Int)+4:=by rw[IntWalk.i64_left];exact IntWalk.wrap64_in _ (by omega)
  by_cases hkl:k+4≤l.length
  ·have t0:decide ((k:Int)+4≤(l.length:Int))=true:=by simp;omega
   have CW:=hid (A2w l _ k wr (HV.out.stays (A7 HB1.out HS.out)) HBY.out hkl);have hwb:=Q9 HBY.out k;have CD:=hid (fun(wk:World) (h:DecIs wk w.heap.size 39)=>I4 (w4 l k) hwb.1 hwb.2 w.heap.size wk h);have HDR:=hid (DecIs.below HD.out HS.out);obtain⟨y,b,e,hyb⟩:=A1R (w4 l k);rw[e]at CD;clear e hwb;have hdl:done.length≤50000:=by omega
   have HKL:=hid hkl;clear hk hkl;obtain⟨x4,hx4⟩:∃x,w4 l k=x:=⟨_,rfl⟩
   rw[hx4]at CW CD hyb;have HX4:=hid hx4;clear hx4;have HYB:=hid hyb;obtain⟨yo,yd,ya,yb,yi⟩:=y;have CD2:Hid (∀(wk:World),DecIs wk w.heap.size 39→Calls prog 57 #[.map (some w.heap.size),.int .u32 x4] wk fun e w'=>e= .returned (.tuple #[.agg #[.int .i64 yo,.int .i64 yd,.int .i64 ya,.int .i64 yb,.int .i64 yi],.bool b])∧Below wk.heap.size wk w'):=CD;clear CD hyb;cases b
   ·go_wp2_with(first|(go_at_call 63;(with_reducible refine CW.out.mono ?_);rintro e wa ⟨rfl,hdr⟩;have HBA:=hid (hdr.below (w:=wr) wr.heap.size);clear hdr)|(go_at_call 57;(with_reducible refine(CD2.out _ (DecIs.below HDR.out HBA.out)).mono ?_);rintro e wb ⟨rfl,hbb⟩))
    go_ret2
    exact⟨A7 HB1.out ((A7 (A7 HS.out HBA.out) hbb).trans ((Below.refl _ _).alloc (by have h1:=HS.out.size;have h2:=HBA.out.size;have h3:=hbb.size;omega) _)),_,done,by rw[show(k:Int)=4*(done.length:Int)by have:=HK.out;omega];rfl,World.ownsRow.mono (RowR.below (RowR.below (RowR.below HROW.out HBA.out) hbb) ((Below.refl _ _).alloc (Nat.le_refl _) _)) HB1.out.size,HLI.out,.inr (by rw[HK.out,HX4.out];exact(HYB.out.resolve_left (fun h=>by cases h.1)).2.1)⟩
   ·go_wp2_with(first|(go_at_call 63;(with_reducible refine CW.out.mono ?_);rintro e wa ⟨rfl,hdr⟩;have HBA:=hid (hdr.below (w:=wr) wr.heap.size);clear hdr)|(go_at_call 57;(with_reducible refine(CD2.out _ (DecIs.below HDR.out HBA.out)).mono ?_);rintro e wb ⟨rfl,hbb⟩;have HBB:=hid hbb;have hszb:=hbb.size;have hsza:=HBA.out.size;clear hbb)|(at_builtin;refine wpList_append_own _ rfl _ _ 66 rfl w1.heap.size 75 n0 _ 5 40 underlying66 hn0 hy0 hy1 hy2 rfl (by decide) _ _ _ rfl ((((HROW.out.below HBA.out).below HBB.out).below ((Below.refl _ _).alloc (Nat.le_refl _) _)).below ((Below.refl _ _).alloc (Nat.le_refl _) _)) ⟨_,0,none⟩ 1 1 [.int .i64 yo,.int .i64 yd,.int .i64 ya,.int .i64 yb,.int .i64 yi] rfl rfl ?c1 ?c2 ?c3 ?c4 ?c5 ?_))
    case c1=>
     intro i u h;rcases i with _|_|_|_|_|i<;>first|(cases h;simp[go_sem,Addr.add])|cases h
    case c2=>simp[Value.oneCell']
    case c3=>unfold maxLen;omega
    case c4=>omega
    case c5=>simp;omega
    intro v' w2 hown' hgrow _;have HOW:=hid hown';have HGR:=hid hgrow;clear hown' hgrow;go_wp2_with fail
    go_roundw
    case rel=>
     have hs2:Since w1 ((wb.alloc (.cells #[.int .i64 yo,.int .i64 yd,.int .i64 ya,.int .i64 yb,.int .i64 yi] 75)).alloc (.cells #[.int .i64 yo,.int .i64 yd,.int .i64 ya,.int .i64 yb,.int .i64 yi] 75)):=A7 (A7 (A7 (A7 HS.out HBA.out) HBB.out) ((Below.refl _ _).alloc (Nat.le_refl _) _)) ((Below.refl _ _).alloc (Nat.le_refl _) _);have hk:=HK.out;exact⟨done++[⟨yo,yd,ya,yb,yi⟩],by simp;omega,HLI.out.step (by have:=HKL.out;omega) (by rw[hk,HX4.out];exact(HYB.out.resolve_right (fun h=>by cases h.1)).2),RowR.snoc ⟨yo,yd,ya,yb,yi⟩ HOW.out,hs2.grown HGR.out (by simp;omega) (V1 HROW.out)⟩
    case measure=>
     have hkl:=HKL.out;simp[intOf];omega
  ·have t0:decide ((k:Int)+4≤(l.length:Int))=false:=by simp;omega
   have HKL:=hid hkl;clear hkl hk;go_wp2_with fail
   go_ret2
   exact⟨A7 HB1.out HS.out,_,done,by rw[show(k:Int)=4*(done.length:Int)by have:=HK.out;omega];rfl,World.ownsRow.mono HROW.out HB1.out.size,HLI.out,.inl (by have:=HKL.out;have:=HK.out;omega)⟩
end Go.Proofs.YtajljbmeaeeknaaGreat
