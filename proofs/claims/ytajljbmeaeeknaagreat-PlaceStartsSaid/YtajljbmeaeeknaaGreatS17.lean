/- -/
import Derived.Test.YtajljbmeaeeknaaGreatS1
import Derived.Test.YtajljbmeaeeknaaGreatS16
open Go.Proofs.Tryz
open Go.Lib (hid)
namespace Go.Proofs.YtajljbmeaeeknaaGreat
open Go.RowKit Go.Maps
set_option linter.unusedVariables false
set_option linter.unusedSimpArgs false
theorem A7Z{d i:Int}(hd:isR d=true)(h0:0≤i)(h1:i<4294967296):okI ⟨1,d,0,32,i⟩=true:=by
 have hz:inZ i 32=true:=by
  unfold inZ;rw[show pwZ 32-1=4294967295 by decide];simp;omega
 show((szI 1).contains 32&&(isR d&&((0:Int)==0&&inZ i 32)))=true
 rw[hd,hz];decide
theorem A1q{o d:Int}(ho:21≤o∧o≤27)(hd:isR d=true):okI ⟨o,d,0,32,0⟩=true:=by
 have h:o=21∨o=22∨o=23∨o=24∨o=25∨o=26∨o=27:=by omega
 rcases h with rfl|rfl|rfl|rfl|rfl|rfl|rfl<;>(
  show((szI _).contains 32&&(isR d&&((0:Int)==0&&(0:Int)==0)))=true
  rw[hd];rfl)
theorem A8f{i:Int}(h0:0≤i)(h1:i<4294967296):I8 (s32 i)=true:=by
 have:=U0 h0 h1;unfold I8;simp;omega
theorem F1{P:Ins→Prop}{a:Ins}(h:P a):∀y∈[a],P y:=fun y hy=>by
 simp only[List.mem_cons,List.not_mem_nil,or_false]at hy;subst hy;exact h
theorem L2{P:Ins→Prop}{a:Ins}{l:List Ins}(h:P a)(hl:∀y∈l,P y):∀y∈a::l,P y:=fun y hy=>by
 rcases List.mem_cons.1 hy with rfl|hy
 ·exact h
 ·exact hl y hy
theorem A2Z{P:Ins→Prop}{l m:List Ins}(h:∀y∈l,P y)(hl:∀y∈m,P y):∀y∈l++m,P y:=fun y hy=>by
 rcases List.mem_append.1 hy with hy|hy
 ·exact h y hy
 ·exact hl y hy
theorem A8G{o d a b:Int}(hd:isR d=true)(ha:isR a=true)(hb:isR b=true):J4 (dv1 o d a b)∧(dv1 o d a b).length=4:=by
 have h2:isR 2=true:=by decide
 have h0:isR 0=true:=by decide
 have hz:isR (if o=6∨o=8 then 2 else 0)=true:=by split<;>assumption
 unfold dv1;refine⟨A2Z (A2Z (F1 (M4 (.inl rfl) h0 ha)) ?_) (F1 (M4 (.inl rfl) hd hz)),by split<;>simp⟩
 split
 ·exact L2 (by decide) (F1 (A1q (by decide) hb))
 ·exact L2 (by decide) (F1 (A1q (by decide) hb))
theorem A1r{o d s i:Int}(ho:o=2∨o=4∨o=5)(hd:isR d=true)(hs:isM s=true)(hi:I8 i=true):okI ⟨o,d,s,32,i⟩=true:=by
 rcases ho with rfl|rfl|rfl<;>(
  show((szI _).contains 32&&(isR d&&(isM s&&I8 i)))=true
  rw[hd,hs,hi];rfl)
theorem A4o{d s z i:Int}(hz:z=32∨z=16)(hd:isM d=true)(hs:isR s=true)(hi:I8 i=true):okI ⟨3,d,s,z,i⟩=true:=by
 rcases hz with rfl|rfl<;>(
  show((szI 3).contains _&&(isM d&&(isR s&&I8 i)))=true
  rw[hd,hs,hi];rfl)
theorem A7Y{d i:Int}(hd:isM d=true)(hi:I8 i=true):okI ⟨6,d,0,32,i⟩=true:=by
 show((szI 6).contains 32&&(isM d&&(isL 0&&I8 i)))=true
 rw[hd,hi];rfl
theorem A7b{o d b f n:Int}(hd:isR d=true)(hb:isR b=true)(hf:isM f=true)(hn:I8 n=true):J4 (mm1 o d b f n)∧1≤(mm1 o d b f n).length:=by
 unfold mm1
 split
 ·exact⟨F1 (A1r (by simp) hd hf hn),by simp⟩
 split
 ·exact⟨F1 (A1r (by simp) hd hf hn),by simp⟩
 split
 ·exact⟨F1 (A1r (by simp) hd hf hn),by simp⟩
 split
 ·exact⟨L2 (M4 (.inl rfl) (by decide) hb) (F1 (A7Y hf hn)),by simp⟩
 split
 ·exact⟨F1 (A4o (.inr rfl) hf hb hn),by simp⟩
 ·exact⟨F1 (A4o (.inl rfl) hf hb hn),by simp⟩
theorem A9q{x:Cd}:isM (bf1 x)=true:=by
 unfold bf1;split
 ·decide
 ·exact A8g
theorem A8O{x:Cd}:J4 (bs1 x):=by
 unfold bs1;split
 ·exact F1 (by decide)
 ·intro y hy;simp at hy
theorem A7W{o:Int}:op1 o=0∨(7≤op1 o∧op1 o≤13)∨op1 o=20:=by
 unfold op1
 split;simp
 split;simp
 split;simp
 split;simp
 split<;>simp
theorem A5u{c:Int}(hc:c=12∨c=2∨c=4):okI ⟨29,0,c,32,0⟩=true:=by rcases hc with rfl|rfl|rfl<;>decide
theorem A4n{d:Int}(hd:isR d=true):okI ⟨30,d,0,32,0⟩=true:=by
 show((szI 30).contains 32&&(isR d&&(isL 0&&(0:Int)==0)))=true
 rw[hd];rfl
theorem A8N{o:Int}:cc1 o=12∨cc1 o=2∨cc1 o=4:=by unfold cc1;split;simp;split<;>simp
theorem A4i{x:Cd}(h0:0≤x.i)(h1:x.i<4294967296):J4 (pl1 x)∧1≤(pl1 x).length∧(pl1 x).length≤5:=by
 have h00:isR 0=true:=by decide
 have h01:isR 1=true:=by decide
 unfold pl1
 split
 ·exact⟨F1 (A7Z L1 h0 h1),by simp,by simp⟩
 split
 ·exact⟨F1 (M4 (.inl rfl) L1 L1),by simp,by simp⟩
 split
 ·have:=A8G (o:=x.o) (L1 (r:=x.d)) (L1 (r:=x.a)) (L1 (r:=x.b));exact⟨this.1,by omega,by omega⟩
 split
 ·exact⟨L2 (M4 (.inl rfl) h01 L1) (L2 (M4 (.inl rfl) h00 L1) (L2 (A1q (by omega) h00) (F1 (M4 (.inl rfl) L1 h00)))),by simp,by simp⟩
 split
 ·exact⟨L2 (M4 (.inr (.inl (by decide))) L1 L1) (L2 (A5u A8N) (F1 (A4n L1))),by simp,by simp⟩
 split
 ·exact⟨L2 (M4 (.inl rfl) h00 L1) (L2 (M4 A7W h00 L1) (F1 (M4 (.inl rfl) L1 h00))),by simp,by simp⟩
 split
 ·have a:=A7b (o:=x.o) (L1 (r:=x.d)) (L1 (r:=x.b)) (A9q (x:=x)) (A8f h0 h1);have b:=A2j x.o (rg1 x.d) (rg1 x.b) (bf1 x) (s32 x.i);have c:=A2t x;exact⟨A2Z A8O a.1,by rw[List.length_append];omega,by rw[List.length_append];omega⟩
 split
 ·exact⟨F1 (by decide),by simp,by simp⟩
 ·exact⟨F1 (by decide),by simp,by simp⟩
def br1(x:Cd)(long:Bool)(p q:Int):List Ins:=
 if x.o=24 then[⟨33,0,0,if long then 32 else 8,q-p-(J5 24 long:Nat)⟩]else[⟨13,rg1 x.a,rg1 x.a,32,0⟩,⟨32,0,5,if long then 32 else 8,q-p-(J5 25 long:Nat)⟩]
theorem A2n{o:Int}{s i:Int}(hi: -200000≤i∧i≤200000):M5 ⟨o,0,s,32,i⟩=true:=by
 unfold M5 I8;simp;omega
theorem A6u{o:Int}{s i:Int}(hi: -128≤i∧i≤127):M5 ⟨o,0,s,8,i⟩=true:=by
 unfold M5 isB;simp;omega
theorem A4p{z i:Int}(hz:z=8∨z=32)(h:M5 ⟨33,0,0,z,i⟩=true):okI ⟨33,0,0,z,i⟩=true:=by
 show((szI 33).contains z&&((0:Int)==0&&((0:Int)==0&&M5 ⟨33,0,0,z,i⟩)))=true
 rw[h];rcases hz with rfl|rfl<;>decide
theorem A4q{z i:Int}(hz:z=8∨z=32)(h:M5 ⟨32,0,5,z,i⟩=true):okI ⟨32,0,5,z,i⟩=true:=by
 show((szI 32).contains z&&((0:Int)==0&&(isC 5&&M5 ⟨32,0,5,z,i⟩)))=true
 rw[h];rcases hz with rfl|rfl<;>decide
theorem A8Q{x:Cd}{long:Bool}{p q:Int}(hx:x.o=24∨x.o=25)(hp:0≤p∧p≤100000)(hq:0≤q∧q≤100000)(hl:long=true∨A2y x.o p q=true):J4 (br1 x long p q):=by
 unfold br1;have z1:=d8 24 long;have z2:=d8 25 long;have hr:long=true∨(-128≤q-p-(J5 x.o long:Nat)∧q-p-(J5 x.o long:Nat)≤127):=by
  cases long
  ·right;have:=hl.resolve_left (by decide);unfold A2y at this;simpa using this
  ·left;rfl
 by_cases h:x.o=24
 ·rw[if_pos h];rw[h]at hr;rcases hr with rfl|hr
  ·exact F1 (A4p (.inr rfl) (A2n (by omega)))
  ·cases long
   ·exact F1 (A4p (.inl rfl) (A6u hr))
   ·exact F1 (A4p (.inr rfl) (A2n (by omega)))
 ·rw[if_neg h];rw[hx.resolve_left h]at hr;refine L2 (M4 (.inr (.inl (by decide))) L1 L1) ?_;rcases hr with rfl|hr
  ·exact F1 (A4q (.inr rfl) (A2n (by omega)))
  ·cases long
   ·exact F1 (A4q (.inl rfl) (A6u hr))
   ·exact F1 (A4q (.inr rfl) (A2n (by omega)))
theorem A6Z{regs nb:Int}(x:Cd)(h:I9 regs nb x=true)(hr:regs≤4)(long:Bool)(p q:Int)(hx:x.o=24∨x.o=25)(hp:0≤p∧p≤100000)(hq:0≤q∧q≤100000)(hl:long=true∨A2y x.o p q=true)(w:World):Calls prog 277 #[.agg #[],ncV x,.bool long,.int .i64 p,.int .i64 q] w fun e w'=>∃u,e= .returned u∧RowI w' w.heap.size 5 .u8 u (E8 (br1 x long p q))∧Below w.heap.size w w':=by
 obtain⟨-,-,ha,-,-⟩:=s2 h;have ha: -1≤x.a∧x.a≤3:=by omega
 have hall:=A8Q hx hp hq hl;unfold br1 at hall⊢;by_cases h1:x.o=24
 ·rw[if_pos h1]at hall⊢;cases long
  ·exact A2R x p q hp hq ha h1 hall w
  ·exact A2S x p q hp hq ha h1 hall w
 have h2:x.o=25:=by omega
 rw[if_neg h1]at hall⊢;cases long
 ·exact A2T x p q hp hq ha h2 hall w
 ·exact A2U x p q hp hq ha h2 hall w
def plB(set:Int)(x:Cd):List Int:=if set=0 then H0 (pl0 x)else E8 (pl1 x)
def szB(set o:Int)(long:Bool):Nat:=if set=0 then A4I long else J5 o long
def A0e(set o p q:Int):Bool:=if set=0 then A0f o p q else A2y o p q
def brB(set:Int)(x:Cd)(long:Bool)(p q:Int):List Int:=if set=0 then H0 (br0 x long p q)else E8 (br1 x long p q)
def N4(set:Int)(x:Cd)(long:Bool):Nat:=if L9 x.o=true then szB set x.o long else(plB set x).length
def D4(set:Int)(cs:List Cd)(lo:List Bool):Nat→Nat
 |0=>0
 |i+1=>D4 set cs lo i+N4 set (cs.getD i default) (lo.getD i false)
theorem q6(set:Int)(cs:List Cd)(lo:List Bool){i j:Nat}(h:i≤j):D4 set cs lo i≤D4 set cs lo j:=by
 induction j with
 |zero=>
  obtain rfl:i=0:=by omega
  exact Nat.le_refl _
 |succ j ih=>
  by_cases e:i=j+1
  ·subst e;exact Nat.le_refl _
  ·exact Nat.le_trans (ih (by omega)) (Nat.le_add_right _ _)
theorem y6(set:Int)(cs:List Cd)(lo:List Bool)(m:Nat)(n:Nat)(h:∀i,i<n→N4 set (cs.getD i default) (lo.getD i false)≤m):∀i,i≤n→D4 set cs lo i≤m*i
 |0,_=>Nat.zero_le _
 |i+1,hi=>by
  have:=y6 set cs lo m n h i (by omega);have h2:=h i (by omega);show D4 set cs lo i+_≤_
  rw[Nat.mul_succ];omega
theorem q7(set:Int)(cs:List Cd)(lo:List Bool)(n:Nat)(h:∀i,i<n→N4 set (cs.getD i default) (lo.getD i false)%4=0):∀i,i≤n→D4 set cs lo i%4=0
 |0,_=>rfl
 |i+1,hi=>by
  have:=q7 set cs lo n h i (by omega);have h2:=h i (by omega);show(D4 set cs lo i+_)%4=0
  omega
theorem A5W{xs:List Ins}(h:J4 xs):xs.length≤(E8 xs).length:=by
 induction xs with
 |nil=>exact Nat.le_refl _
 |cons x r ih=>
  have h1:=(A0C (h x (List.mem_cons_self ..))).1;have h2:=ih (fun y hy=>h y (List.mem_cons_of_mem _ hy));simp only[E8,List.length_append,List.length_cons];omega
theorem A6I{x:Cd}(h0:0≤x.i)(h1:x.i<4294967296)(long:Bool):1≤N4 1 x long∧N4 1 x long≤45:=by
 unfold N4
 split
 ·unfold szB;rw[if_neg (by decide)];have:=d8 x.o long;omega
 ·unfold plB;rw[if_neg (by decide)];obtain⟨a,b,c⟩:=A4i h0 h1;have:=A1Q a;have:=A5W a;omega
theorem A6J{regs nb:Int}{x:Cd}(h:I9 regs nb x=true)(hr:regs≤10)(h1:x.i<4294967296)(long:Bool):1≤N4 0 x long∧N4 0 x long≤45∧N4 0 x long%4=0:=by
 unfold N4
 split
 ·unfold szB;rw[if_pos rfl];unfold A4I;split<;>decide
 ·rename_i hb
  unfold plB;rw[if_pos rfl];have hx:x.o≠24∧x.o≠25:=by
   unfold L9 at hb;simp only[Bool.or_eq_true,beq_iff_eq,not_or]at hb;exact hb
  obtain⟨a,b,c⟩:=A4j h hr h1 hx;rw[k8];omega
end Go.Proofs.YtajljbmeaeeknaaGreat
namespace Go.Proofs.YtajljbmeaeeknaaGreat
open Go.RowKit Go.Maps
theorem A1w (n : Nat) (w : World) : Sem.run prog (Go.method (n + 1) 188 (.agg #[]) ("backstay".push (Char.ofNat 47) ++ "place.size")) w = .ok (271, .agg #[]) w := by kernel_rfl
theorem o7 (n : Nat) (w : World) : Sem.run prog (Go.method (n + 1) 188 (.agg #[]) ("backstay".push (Char.ofNat 47) ++ "place.reaches")) w = .ok (269, .agg #[]) w := by kernel_rfl
theorem y8 (n : Nat) (w : World) : Sem.run prog (Go.method (n + 1) 188 (.agg #[]) ("backstay".push (Char.ofNat 47) ++ "place.branch")) w = .ok (267, .agg #[]) w := by kernel_rfl
theorem A0k (n : Nat) (w : World) : Sem.run prog (Go.method (n + 1) 188 (.agg #[]) ("backstay".push (Char.ofNat 47) ++ "place.plain")) w = .ok (268, .agg #[]) w := by kernel_rfl
theorem A1v (n : Nat) (w : World) : Sem.run prog (Go.method (n + 1) 189 (.agg #[]) ("backstay".push (Char.ofNat 47) ++ "place.size")) w = .ok (281, .agg #[]) w := by kernel_rfl
theorem o6 (n : Nat) (w : World) : Sem.run prog (Go.method (n + 1) 189 (.agg #[]) ("backstay".push (Char.ofNat 47) ++ "place.reaches")) w = .ok (279, .agg #[]) w := by kernel_rfl
theorem y7 (n : Nat) (w : World) : Sem.run prog (Go.method (n + 1) 189 (.agg #[]) ("backstay".push (Char.ofNat 47) ++ "place.branch")) w = .ok (277, .agg #[]) w := by kernel_rfl
theorem A0j (n : Nat) (w : World) : Sem.run prog (Go.method (n + 1) 189 (.agg #[]) ("backstay".push (Char.ofNat 47) ++ "place.plain")) w = .ok (278, .agg #[]) w := by kernel_rfl
end Go.Proofs.YtajljbmeaeeknaaGreat
namespace Go.Proofs.YtajljbmeaeeknaaGreat
open Go.RowKit Go.Maps
set_option linter.unusedVariables false
set_option linter.unusedSimpArgs false
structure LayW(T:TypeId)(B L b cb d db s g:Nat)(cs:List Cd)(bl:List Int)(st:List Nat)(lo:List Bool)(w:World):Prop where
 hl:Cls w L [.iface T (.agg #[]),.slice (some ⟨b,0,none⟩) cs.length cb,.slice (some ⟨d,0,none⟩) bl.length db,.slice (some ⟨s,0,none⟩) (cs.length+1) (cs.length+1),.slice (some ⟨g,0,none⟩) cs.length cs.length]
 hc:∀j,j<cs.length→A2b w b (j*6) (cs.getD j default)
 hd:∀j,j<bl.length→w.cell? ⟨d,j,none⟩=some (.int .i64 (bl.getD j 0))
 hs:Cls w s (st.map fun n=>.int .i64 (n:Nat))
 hg:Cls w g (lo.map .bool)
 ls:st.length=cs.length+1
 lg:lo.length=cs.length
 hn:L<B∧b<B∧d<B∧B≤s∧B≤g∧s≠g∧0<cs.length∧cs.length≤500
theorem LayW.below{T:TypeId}{B L b cb d db s g:Nat}{cs:List Cd}{bl:List Int}{st:List Nat}{lo:List Bool}{w w':World}(h:LayW T B L b cb d db s g cs bl st lo w)(hb:Below w.heap.size w w'):LayW T B L b cb d db s g cs bl st lo w':=by
 obtain⟨h1,h2,h3,h4,h5,h6,h7,h8⟩:=h.hn;have hsl:=h.hs.lt (by rw[List.length_map,h.ls];omega);have hgl:=h.hg.lt (by rw[List.length_map,h.lg];omega);refine⟨h.hl.below (by omega) hb,fun j hj=>?_,fun j hj=>A7 hb (by omega) (h.hd j hj),h.hs.below hsl hb,h.hg.below hgl hb,h.ls,h.lg,h.hn⟩;obtain⟨c0,c1,c2,c3,c4,c5⟩:=h.hc j hj;have hlt:b<w.heap.size:=by omega
 exact⟨A7 hb hlt c0,A7 hb hlt c1,A7 hb hlt c2,A7 hb hlt c3,A7 hb hlt c4,A7 hb hlt c5⟩
theorem LayW.setS{T:TypeId}{B L b cb d db s g:Nat}{cs:List Cd}{bl:List Int}{st:List Nat}{lo:List Bool}{w:World}(h:LayW T B L b cb d db s g cs bl st lo w){j:Nat}(hj:j≤cs.length)(n:Nat):LayW T B L b cb d db s g cs bl (st.set j n) lo (w.setCell ⟨s,j,none⟩ (.int .i64 (n:Nat))):=by
 obtain⟨h1,h2,h3,h4,h5,h6,h7,h8⟩:=h.hn;have ho:∀{k o:Nat} {v:Value},k≠s→w.cell? ⟨k,o,none⟩=some v→(w.setCell ⟨s,j,none⟩ (.int .i64 (n:Nat))).cell? ⟨k,o,none⟩=some v:=fun{k o v} hk hv=>by
  rw[World.cell?_setCell_other _ _ _ _ (by intro hh;cases hh;omega)];exact hv
 refine⟨h.hl.other (by omega) _,fun i hi=>?_,fun i hi=>ho (by omega) (h.hd i hi),?_,h.hg.other (by omega) _,by rw[List.length_set];exact h.ls,h.lg,h.hn⟩
 ·obtain⟨c0,c1,c2,c3,c4,c5⟩:=h.hc i hi;have hb:b≠s:=by omega
  exact⟨ho hb c0,ho hb c1,ho hb c2,ho hb c3,ho hb c4,ho hb c5⟩
 ·rw[List.map_set];exact h.hs.set (by rw[List.length_map,h.ls];omega) _
theorem LayW.setG{T:TypeId}{B L b cb d db s g:Nat}{cs:List Cd}{bl:List Int}{st:List Nat}{lo:List Bool}{w:World}(h:LayW T B L b cb d db s g cs bl st lo w){j:Nat}(hj:j<cs.length)(q:Bool):LayW T B L b cb d db s g cs bl st (lo.set j q) (w.setCell ⟨g,j,none⟩ (.bool q)):=by
 obtain⟨h1,h2,h3,h4,h5,h6,h7,h8⟩:=h.hn;have ho:∀{k o:Nat} {v:Value},k≠g→w.cell? ⟨k,o,none⟩=some v→(w.setCell ⟨g,j,none⟩ (.bool q)).cell? ⟨k,o,none⟩=some v:=fun{k o v} hk hv=>by
  rw[World.cell?_setCell_other _ _ _ _ (by intro hh;cases hh;omega)];exact hv
 refine⟨h.hl.other (by omega) _,fun i hi=>?_,fun i hi=>ho (by omega) (h.hd i hi),h.hs.other (by omega) _,?_,h.ls,by rw[List.length_set];exact h.lg,h.hn⟩
 ·obtain⟨c0,c1,c2,c3,c4,c5⟩:=h.hc i hi;have hb:b≠g:=by omega
  exact⟨ho hb c0,ho hb c1,ho hb c2,ho hb c3,ho hb c4,ho hb c5⟩
 ·rw[List.map_set];exact h.hg.set (by rw[List.length_map,h.lg];omega) _
theorem q3z{p:Prop}(h:p:=by
 go_enter func73,ntmps73;go_upto_region 60 with(first|(go_at_call 42;(with_reducible refine(C1.out _).mono ?_);rintro e w' ⟨rfl,rfl⟩)|(go_at_call 43;(with_reducible refine(CM.out _).mono ?_);rintro e w' ⟨rfl,rfl⟩)|(go_at_call 41;(first|(with_reducible refine(C0.out _).mono ?_)|(with_reducible refine(C2.out _).mono ?_)|(with_reducible refine(C3.out _).mono ?_));rintro e w' ⟨rfl,rfl⟩))
 go_ret;exact⟨N6 (by first|rfl|simp),BB.out⟩
 ):p:=h
theorem q7z{p:Prop}(h:p:=by
 go_enter func73,ntmps73;go_upto_region 60 with(first|(go_at_call 42;(with_reducible refine(C1.out _).mono ?_);rintro e w' ⟨rfl,rfl⟩)|(go_at_call 43;(with_reducible refine(CM.out _).mono ?_);rintro e w' ⟨rfl,rfl⟩)|(go_at_call 41;(first|(with_reducible refine(C0.out _).mono ?_)|(with_reducible refine(C2.out _).mono ?_)|(with_reducible refine(C3.out _).mono ?_)|(with_reducible refine(C4.out _).mono ?_));rintro e w' ⟨rfl,rfl⟩))
 go_ret;exact⟨N6 (by first|rfl|simp),BB.out⟩
 ):p:=h
theorem q8z{p:Prop}(h:p:=by
 go_enter func73,ntmps73;go_upto_region 60 with(first|(go_at_call 42;(with_reducible refine(C1.out _).mono ?_);rintro e w' ⟨rfl,rfl⟩)|(go_at_call 43;(with_reducible refine(CM.out _).mono ?_);rintro e w' ⟨rfl,rfl⟩)|(go_at_call 41;(first|(with_reducible refine(C0.out _).mono ?_)|(with_reducible refine(C3.out _).mono ?_)|(with_reducible refine(C5.out _).mono ?_));rintro e w' ⟨rfl,rfl⟩))
 go_ret;exact⟨N6 (by first|rfl|simp),BB.out⟩
 ):p:=h
theorem A3H{p:Prop}(h:p:=by
 go_enter func73,ntmps73;go_upto_region 60 with(first|(go_at_call 42;(with_reducible refine(C1.out _).mono ?_);rintro e w' ⟨rfl,rfl⟩)|(go_at_call 43;(with_reducible refine(CM.out _).mono ?_);rintro e w' ⟨rfl,rfl⟩)|(go_at_call 41;(first|(with_reducible refine(C0.out _).mono ?_)|(with_reducible refine(C5.out _).mono ?_));rintro e w' ⟨rfl,rfl⟩))
 go_ret;exact⟨N6 (by first|rfl|simp),BB.out⟩
 ):p:=h
theorem A3F{p:Prop}(h:p:=by
 go_enter func73,ntmps73;go_upto_region 60 with(first|(go_at_call 42;(with_reducible refine(C1.out _).mono ?_);rintro e w' ⟨rfl,rfl⟩)|(go_at_call 43;(with_reducible refine(CM.out _).mono ?_);rintro e w' ⟨rfl,rfl⟩)|(go_at_call 41;(first|(with_reducible refine(C0.out _).mono ?_));rintro e w' ⟨rfl,rfl⟩))
 go_ret;exact⟨N6 (by first|rfl|simp),BB.out⟩
 ):p:=h
theorem A4W{p:Prop}(h:p:=by
 go_enter func73,ntmps73;go_upto_region 60 with(first|(go_at_call 42;(with_reducible refine(C1.out _).mono ?_);rintro e w' ⟨rfl,rfl⟩)|(go_at_call 43;(with_reducible refine(CM.out _).mono ?_);rintro e w' ⟨rfl,rfl⟩)|(go_at_call 41;(first|(with_reducible refine(C0.out _).mono ?_)|(with_reducible refine(C3.out _).mono ?_)|(with_reducible refine(C4.out _).mono ?_));rintro e w' ⟨rfl,rfl⟩))
 go_ret;exact⟨N6 (by first|rfl|simp),BB.out⟩
 ):p:=h
theorem A4V{p:Prop}(h:p:=by
 go_enter func73,ntmps73;go_upto_region 60 with(first|(go_at_call 42;(with_reducible refine(C1.out _).mono ?_);rintro e w' ⟨rfl,rfl⟩)|(go_at_call 43;(with_reducible refine(CM.out _).mono ?_);rintro e w' ⟨rfl,rfl⟩)|(go_at_call 41;(first|(with_reducible refine(C0.out _).mono ?_)|(with_reducible refine(C2.out _).mono ?_));rintro e w' ⟨rfl,rfl⟩))
 go_ret;exact⟨N6 (by first|rfl|simp),BB.out⟩
 ):p:=h
theorem T8{n lo hi:Int}:wiN n true lo hi=(decide (lo≤n)&&decide (n≤hi-1)):=by
 show(decide (lo≤n)&&decide (n<hi))=_
 congr 1;apply decide_eq_decide.2;omega
theorem Y8{n lo hi:Int}:wiN n false lo hi=(n==0):=rfl
set_option maxRecDepth 100000 in
set_option maxHeartbeats 4000000 in
theorem A4y(x:Cd)(regs nb:Int)(w:World)(hr: -9223372036854775807≤regs∧regs≤9223372036854775807)(hn: -9223372036854775807≤nb∧nb≤9223372036854775807):Calls prog 73 #[ncV x,.int .i64 regs,.int .i64 nb] w fun e w'=>e= .returned (.bool (I9 regs nb x))∧Below w.heap.size w w':=by
 obtain⟨o,d,a,b,i,t⟩:=x;show Calls prog 73 #[.agg #[.int .i64 o,.int .i64 d,.int .i64 a,.int .i64 b,.int .u32 i,.int .i64 t],.int .i64 regs,.int .i64 nb] w _
 have hwr:wrap64 (regs-1)=regs-1:=IntWalk.wrap64_in _ ⟨by omega,by omega⟩;have hwn:wrap64 (nb-1)=nb-1:=IntWalk.wrap64_in _ ⟨by omega,by omega⟩;obtain⟨W1,hW1⟩:∃W,w.alloc (.cells #[.int .i64 o,.int .i64 d,.int .i64 a,.int .i64 b,.int .u32 i,.int .i64 t] 61)=W:=⟨_,rfl⟩
 have BB:Hid (Below w.heap.size w W1):=by rw[←hW1];exact(Below.refl _ _).alloc (Nat.le_refl _) _
 have HC:Hid (Cls W1 w.heap.size [.int .i64 o,.int .i64 d,.int .i64 a,.int .i64 b,.int .u32 i,.int .i64 t]):=by rw[←hW1];exact Cls.made
 have x0:=HC.out.at 0 (.int .i64 o) rfl;have x1:=HC.out.at 1 (.int .i64 d) rfl;have x2:=HC.out.at 2 (.int .i64 a) rfl;have x3:=HC.out.at 3 (.int .i64 b) rfl;have x4:=HC.out.at 4 (.int .u32 i) rfl;have x5:=HC.out.at 5 (.int .i64 t) rfl;have C0:=hid (G2 o 0 27);have C1:=hid (A9d o);have CM:=hid (A6O o);rw[A7c]at CM;have hk:(clO o=8∧(decide (0≤o)&&decide (o≤27))=false)∨((decide (0≤o)&&decide (o≤27))=true∧(clO o=0∨clO o=1∨clO o=2∨clO o=3∨clO o=4∨clO o=5∨clO o=6∨clO o=7)):=by
  simp only[Bool.and_eq_true,decide_eq_true_eq,Bool.and_eq_false_iff,decide_eq_false_iff_not];have:=R8 o;omega
 unfold I9;simp only;generalize(decide (0≤o)&&decide (o≤27))=ok at*
 generalize clO o=k at*
 rcases hk with⟨rfl,rfl⟩|⟨rfl,rfl|rfl|rfl|rfl|rfl|rfl|rfl|rfl⟩
 ·clear C1 CM hwr hwn;show Calls _ _ _ _ fun e w'=>e= .returned (.bool false)∧_
  go_enter func73,ntmps73;go_wp2_with(go_at_call 41;(with_reducible refine(C0.out _).mono ?_);rintro e w' ⟨rfl,rfl⟩)
  go_ret;exact⟨rfl,BB.out⟩
 ·have C1:Hid (∀w,Calls prog 42 #[.int .i64 o] w fun e w'=>e= .returned (.tuple #[.bool true,.bool false,.bool false,.bool true,.bool false])∧w=w'):=C1;have CM:Hid (∀w,Calls prog 43 #[.int .i64 o] w fun e w'=>e= .returned (.bool false)∧w=w'):=CM;show Calls _ _ _ _ fun e w'=>e= .returned (.bool (true&&(wiN d true 0 regs&&(wiN a false 0 regs&&(wiN b false 0 regs&&(wiN t false 0 nb&&(true||i==0)))))))∧_
  simp only[T8,Y8,Bool.true_and,Bool.true_or,Bool.false_or,Bool.and_true];have C2:Hid (∀w,Calls prog 41 #[.int .i64 d,.int .i64 0,.int .i64 (regs-1)] w fun e w'=>e= .returned (.bool (decide (0≤d)&&decide (d≤regs-1)))∧w=w'):=hid (G2 d (0) (regs-1));generalize(decide (0≤d)&&decide (d≤regs-1))=B1 at*
  cases B1
  ·exact A4V
  cases ha:(a==0)
  ·have ga:(a !=0)=true:=by simpa using ha
   exact A4V
  have ga:(a !=0)=false:=by simpa using ha
  cases hb:(b==0)
  ·have gb:(b !=0)=true:=by simpa using hb
   exact A4V
  have gb:(b !=0)=false:=by simpa using hb
  cases ht:(t==0)
  ·have gt:(t !=0)=true:=by simpa using ht
   exact A4V
  have gt:(t !=0)=false:=by simpa using ht
  exact A4V
 ·have C1:Hid (∀w,Calls prog 42 #[.int .i64 o] w fun e w'=>e= .returned (.tuple #[.bool true,.bool true,.bool false,.bool false,.bool false])∧w=w'):=C1;have CM:Hid (∀w,Calls prog 43 #[.int .i64 o] w fun e w'=>e= .returned (.bool false)∧w=w'):=CM;show Calls _ _ _ _ fun e w'=>e= .returned (.bool (true&&(wiN d true 0 regs&&(wiN a true 0 regs&&(wiN b false 0 regs&&(wiN t false 0 nb&&(false||i==0)))))))∧_
  simp only[T8,Y8,Bool.true_and,Bool.true_or,Bool.false_or,Bool.and_true];have C2:Hid (∀w,Calls prog 41 #[.int .i64 d,.int .i64 0,.int .i64 (regs-1)] w fun e w'=>e= .returned (.bool (decide (0≤d)&&decide (d≤regs-1)))∧w=w'):=hid (G2 d (0) (regs-1));generalize(decide (0≤d)&&decide (d≤regs-1))=B1 at*
  have C3:Hid (∀w,Calls prog 41 #[.int .i64 a,.int .i64 0,.int .i64 (regs-1)] w fun e w'=>e= .returned (.bool (decide (0≤a)&&decide (a≤regs-1)))∧w=w'):=hid (G2 a (0) (regs-1));generalize(decide (0≤a)&&decide (a≤regs-1))=B2 at*
  cases B1
  ·exact q3z
  cases B2
  ·exact q3z
  cases hb:(b==0)
  ·have gb:(b !=0)=true:=by simpa using hb
   exact q3z
  have gb:(b !=0)=false:=by simpa using hb
  cases hi:(i==0)
  ·have gi:(i !=0)=true:=by simpa using hi
   exact q3z
  have gi:(i !=0)=false:=by simpa using hi
  cases ht:(t==0)
  ·have gt:(t !=0)=true:=by simpa using ht
   exact q3z
  have gt:(t !=0)=false:=by simpa using ht
  exact q3z
 ·have C1:Hid (∀w,Calls prog 42 #[.int .i64 o] w fun e w'=>e= .returned (.tuple #[.bool true,.bool true,.bool true,.bool false,.bool false])∧w=w'):=C1;have CM:Hid (∀w,Calls prog 43 #[.int .i64 o] w fun e w'=>e= .returned (.bool false)∧w=w'):=CM;show Calls _ _ _ _ fun e w'=>e= .returned (.bool (true&&(wiN d true 0 regs&&(wiN a true 0 regs&&(wiN b true 0 regs&&(wiN t false 0 nb&&(false||i==0)))))))∧_
  simp only[T8,Y8,Bool.true_and,Bool.true_or,Bool.false_or,Bool.and_true];have C2:Hid (∀w,Calls prog 41 #[.int .i64 d,.int .i64 0,.int .i64 (regs-1)] w fun e w'=>e= .returned (.bool (decide (0≤d)&&decide (d≤regs-1)))∧w=w'):=hid (G2 d (0) (regs-1));generalize(decide (0≤d)&&decide (d≤regs-1))=B1 at*
  have C3:Hid (∀w,Calls prog 41 #[.int .i64 a,.int .i64 0,.int .i64 (regs-1)] w fun e w'=>e= .returned (.bool (decide (0≤a)&&decide (a≤regs-1)))∧w=w'):=hid (G2 a (0) (regs-1));generalize(decide (0≤a)&&decide (a≤regs-1))=B2 at*
  have C4:Hid (∀w,Calls prog 41 #[.int .i64 b,.int .i64 0,.int .i64 (regs-1)] w fun e w'=>e= .returned (.bool (decide (0≤b)&&decide (b≤regs-1)))∧w=w'):=hid (G2 b (0) (regs-1));generalize(decide (0≤b)&&decide (b≤regs-1))=B3 at*
  cases B1
  ·exact q7z
  cases B2
  ·exact q7z
  cases B3
  ·exact q7z
  cases hi:(i==0)
  ·have gi:(i !=0)=true:=by simpa using hi
   exact q7z
  have gi:(i !=0)=false:=by simpa using hi
  cases ht:(t==0)
  ·have gt:(t !=0)=true:=by simpa using ht
   exact q7z
  have gt:(t !=0)=false:=by simpa using ht
  exact q7z
 ·have C1:Hid (∀w,Calls prog 42 #[.int .i64 o] w fun e w'=>e= .returned (.tuple #[.bool true,.bool true,.bool false,.bool true,.bool false])∧w=w'):=C1;have CM:Hid (∀w,Calls prog 43 #[.int .i64 o] w fun e w'=>e= .returned (.bool true)∧w=w'):=CM;show Calls _ _ _ _ fun e w'=>e= .returned (.bool (true&&(wiN d true 0 regs&&(wiN a true (-1) regs&&(wiN b false 0 regs&&(wiN t false 0 nb&&(true||i==0)))))))∧_
  simp only[T8,Y8,Bool.true_and,Bool.true_or,Bool.false_or,Bool.and_true];have C2:Hid (∀w,Calls prog 41 #[.int .i64 d,.int .i64 0,.int .i64 (regs-1)] w fun e w'=>e= .returned (.bool (decide (0≤d)&&decide (d≤regs-1)))∧w=w'):=hid (G2 d (0) (regs-1));generalize(decide (0≤d)&&decide (d≤regs-1))=B1 at*
  have C3:Hid (∀w,Calls prog 41 #[.int .i64 a,.int .i64 (-1),.int .i64 (regs-1)] w fun e w'=>e= .returned (.bool (decide ((-1)≤a)&&decide (a≤regs-1)))∧w=w'):=hid (G2 a ((-1)) (regs-1));generalize(decide ((-1)≤a)&&decide (a≤regs-1))=B2 at*
  cases B1
  ·exact q3z
  cases B2
  ·exact q3z
  cases hb:(b==0)
  ·have gb:(b !=0)=true:=by simpa using hb
   exact q3z
  have gb:(b !=0)=false:=by simpa using hb
  cases ht:(t==0)
  ·have gt:(t !=0)=true:=by simpa using ht
   exact q3z
  have gt:(t !=0)=false:=by simpa using ht
  exact q3z
 ·have C1:Hid (∀w,Calls prog 42 #[.int .i64 o] w fun e w'=>e= .returned (.tuple #[.bool false,.bool true,.bool true,.bool true,.bool false])∧w=w'):=C1;have CM:Hid (∀w,Calls prog 43 #[.int .i64 o] w fun e w'=>e= .returned (.bool true)∧w=w'):=CM;show Calls _ _ _ _ fun e w'=>e= .returned (.bool (true&&(wiN d false 0 regs&&(wiN a true (-1) regs&&(wiN b true 0 regs&&(wiN t false 0 nb&&(true||i==0)))))))∧_
  simp only[T8,Y8,Bool.true_and,Bool.true_or,Bool.false_or,Bool.and_true];have C3:Hid (∀w,Calls prog 41 #[.int .i64 a,.int .i64 (-1),.int .i64 (regs-1)] w fun e w'=>e= .returned (.bool (decide ((-1)≤a)&&decide (a≤regs-1)))∧w=w'):=hid (G2 a ((-1)) (regs-1));generalize(decide ((-1)≤a)&&decide (a≤regs-1))=B2 at*
  have C4:Hid (∀w,Calls prog 41 #[.int .i64 b,.int .i64 0,.int .i64 (regs-1)] w fun e w'=>e= .returned (.bool (decide (0≤b)&&decide (b≤regs-1)))∧w=w'):=hid (G2 b (0) (regs-1));generalize(decide (0≤b)&&decide (b≤regs-1))=B3 at*
  cases hd:(d==0)
  ·have gd:(d !=0)=true:=by simpa using hd
   exact A4W
  have gd:(d !=0)=false:=by simpa using hd
  cases B2
  ·exact A4W
  cases B3
  ·exact A4W
  cases ht:(t==0)
  ·have gt:(t !=0)=true:=by simpa using ht
   exact A4W
  have gt:(t !=0)=false:=by simpa using ht
  exact A4W
 ·have C1:Hid (∀w,Calls prog 42 #[.int .i64 o] w fun e w'=>e= .returned (.tuple #[.bool false,.bool false,.bool false,.bool false,.bool true])∧w=w'):=C1;have CM:Hid (∀w,Calls prog 43 #[.int .i64 o] w fun e w'=>e= .returned (.bool false)∧w=w'):=CM;show Calls _ _ _ _ fun e w'=>e= .returned (.bool (true&&(wiN d false 0 regs&&(wiN a false 0 regs&&(wiN b false 0 regs&&(wiN t true 0 nb&&(false||i==0)))))))∧_
  simp only[T8,Y8,Bool.true_and,Bool.true_or,Bool.false_or,Bool.and_true];have C5:Hid (∀w,Calls prog 41 #[.int .i64 t,.int .i64 0,.int .i64 (nb-1)] w fun e w'=>e= .returned (.bool (decide (0≤t)&&decide (t≤nb-1)))∧w=w'):=hid (G2 t (0) (nb-1));generalize(decide (0≤t)&&decide (t≤nb-1))=B4 at*
  cases hd:(d==0)
  ·have gd:(d !=0)=true:=by simpa using hd
   exact A3H
  have gd:(d !=0)=false:=by simpa using hd
  cases ha:(a==0)
  ·have ga:(a !=0)=true:=by simpa using ha
   exact A3H
  have ga:(a !=0)=false:=by simpa using ha
  cases hb:(b==0)
  ·have gb:(b !=0)=true:=by simpa using hb
   exact A3H
  have gb:(b !=0)=false:=by simpa using hb
  cases hi:(i==0)
  ·have gi:(i !=0)=true:=by simpa using hi
   exact A3H
  have gi:(i !=0)=false:=by simpa using hi
  cases B4
  ·exact A3H
  exact A3H
 ·have C1:Hid (∀w,Calls prog 42 #[.int .i64 o] w fun e w'=>e= .returned (.tuple #[.bool false,.bool true,.bool false,.bool false,.bool true])∧w=w'):=C1;have CM:Hid (∀w,Calls prog 43 #[.int .i64 o] w fun e w'=>e= .returned (.bool false)∧w=w'):=CM;show Calls _ _ _ _ fun e w'=>e= .returned (.bool (true&&(wiN d false 0 regs&&(wiN a true 0 regs&&(wiN b false 0 regs&&(wiN t true 0 nb&&(false||i==0)))))))∧_
  simp only[T8,Y8,Bool.true_and,Bool.true_or,Bool.false_or,Bool.and_true];have C3:Hid (∀w,Calls prog 41 #[.int .i64 a,.int .i64 0,.int .i64 (regs-1)] w fun e w'=>e= .returned (.bool (decide (0≤a)&&decide (a≤regs-1)))∧w=w'):=hid (G2 a (0) (regs-1));generalize(decide (0≤a)&&decide (a≤regs-1))=B2 at*
  have C5:Hid (∀w,Calls prog 41 #[.int .i64 t,.int .i64 0,.int .i64 (nb-1)] w fun e w'=>e= .returned (.bool (decide (0≤t)&&decide (t≤nb-1)))∧w=w'):=hid (G2 t (0) (nb-1));generalize(decide (0≤t)&&decide (t≤nb-1))=B4 at*
  cases hd:(d==0)
  ·have gd:(d !=0)=true:=by simpa using hd
   exact q8z
  have gd:(d !=0)=false:=by simpa using hd
  cases B2
  ·exact q8z
  cases hb:(b==0)
  ·have gb:(b !=0)=true:=by simpa using hb
   exact q8z
  have gb:(b !=0)=false:=by simpa using hb
  cases hi:(i==0)
  ·have gi:(i !=0)=true:=by simpa using hi
   exact q8z
  have gi:(i !=0)=false:=by simpa using hi
  cases B4
  ·exact q8z
  exact q8z
 ·have C1:Hid (∀w,Calls prog 42 #[.int .i64 o] w fun e w'=>e= .returned (.tuple #[.bool false,.bool false,.bool false,.bool false,.bool false])∧w=w'):=C1;have CM:Hid (∀w,Calls prog 43 #[.int .i64 o] w fun e w'=>e= .returned (.bool false)∧w=w'):=CM;show Calls _ _ _ _ fun e w'=>e= .returned (.bool (true&&(wiN d false 0 regs&&(wiN a false 0 regs&&(wiN b false 0 regs&&(wiN t false 0 nb&&(false||i==0)))))))∧_
  simp only[Y8,Bool.true_and,Bool.true_or,Bool.false_or,Bool.and_true];cases hd:(d==0)
  ·have gd:(d !=0)=true:=by simpa using hd
   exact A3F
  have gd:(d !=0)=false:=by simpa using hd
  cases ha:(a==0)
  ·have ga:(a !=0)=true:=by simpa using ha
   exact A3F
  have ga:(a !=0)=false:=by simpa using ha
  cases hb:(b==0)
  ·have gb:(b !=0)=true:=by simpa using hb
   exact A3F
  have gb:(b !=0)=false:=by simpa using hb
  cases hi:(i==0)
  ·have gi:(i !=0)=true:=by simpa using hi
   exact A3F
  have gi:(i !=0)=false:=by simpa using hi
  cases ht:(t==0)
  ·have gt:(t !=0)=true:=by simpa using ht
   exact A3F
  have gt:(t !=0)=false:=by simpa using ht
  exact A3F
end Go.Proofs.YtajljbmeaeeknaaGreat
