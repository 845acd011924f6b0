/- -/
import Derived.Deep.DeepMust
import Derived.Test.YtajljbmeaeeknaaGreatS2
open Go.Proofs.Tryz
open Go.Lib (hid)
set_option maxRecDepth 100000
namespace Go.Proofs.YtajljbmeaeeknaaGreat
open Go.RowKit
set_option linter.unusedVariables false
set_option linter.unusedSimpArgs false
theorem A7Q{p:Prop}(h:p:=by
 go_enter func55,ntmps55;go_upto_region 3 with(go_at_call 84;(with_reducible refine(CF.out _ HO.out HO1.out).mono ?_);rintro e w' ⟨rfl,rfl⟩)
 go_quiet((first|(go_at_call 87;with_reducible exact D8 (CC.out _))|(go_at_call 88;with_reducible exact D8 (CT.out _))))
 have HN:=hid (Dr.below (w:=W1) ⟨nq,rfl⟩ w.heap.size);go_wp2_with fail
 go_ret;exact⟨E9 HE.out,HBB.out.trans HN.out⟩
 ):p:=h
theorem A8v{p:Prop}(h:p:=by
 go_enter func55,ntmps55;go_upto_region 3 with(go_at_call 84;(with_reducible refine(CF.out _ HO.out HO1.out).mono ?_);rintro e w' ⟨rfl,rfl⟩)
 go_quiet((first|(go_at_call 87;with_reducible exact D8 (CC.out _))|(go_at_call 88;with_reducible exact D8 (CT.out _))))
 have HN:=hid (Dr.below (w:=W1) ⟨nq,rfl⟩ w.heap.size);go_wp2_with(go_at_call 89;(with_reducible refine(CS.out _).mono ?_);rintro e wb ⟨rfl,rfl⟩)
 go_ret;exact⟨E9 HE.out,HBB.out.trans HN.out⟩
 ):p:=h
theorem A4E{a b h:Int}(k j:Nat)(h0:0≤a)(h1:a<2^k)(b0:0≤b)(b1:b<2^j)(g0:0≤h)(hs:a+b*2^k+h*2^(k+j)<4294967296):bits .or .u32 (a+h*2^(k+j)) (b*2^k)=a+b*2^k+h*2^(k+j):=by
 obtain⟨n,rfl⟩:=Int.eq_ofNat_of_zero_le h0;obtain⟨m,rfl⟩:=Int.eq_ofNat_of_zero_le b0;obtain⟨q,rfl⟩:=Int.eq_ofNat_of_zero_le g0;have e1:(m:Int)*2^k=((m*2^k:Nat):Int):=by push_cast;rfl
 have e2:(q:Int)*2^(k+j)=((q*2^(k+j):Nat):Int):=by push_cast;rfl
 have h1':n<2^k:=by exact_mod_cast h1
 have b1':m<2^j:=by exact_mod_cast b1
 rw[e1,e2]at hs⊢;rw[show(n:Int)+((q*2^(k+j):Nat):Int)=((n+q*2^(k+j):Nat):Int)by push_cast;rfl,u9 _ _ (by omega) (by omega)];have w1:n+q*2^(k+j)=(q*2^j)*2^k|||n:=by
  have:=Nat.two_pow_add_eq_or_of_lt h1' (q*2^j);rw[Nat.mul_comm (2^k)]at this;rw[←this,Nat.pow_add,Nat.mul_assoc,Nat.mul_comm (2^j)];omega
 have w2:(q*2^j)*2^k|||m*2^k=(q*2^j+m)*2^k:=by
  have:=Nat.two_pow_add_eq_or_of_lt b1' q;rw[Nat.mul_comm (2^j)]at this;rw[this,←Nat.shiftLeft_eq (q*2^j) k,←Nat.shiftLeft_eq m k,←Nat.shiftLeft_or_distrib,Nat.shiftLeft_eq]
 have w3:(q*2^j+m)*2^k|||n=(q*2^j+m)*2^k+n:=by
  have:=Nat.two_pow_add_eq_or_of_lt h1' (q*2^j+m);rw[Nat.mul_comm (2^k)]at this;exact this.symm
 rw[w1,Nat.or_assoc,Nat.or_comm n,←Nat.or_assoc,w2,w3];rw[Nat.add_mul,Nat.pow_add,Nat.mul_assoc,Nat.mul_comm (2^j)]
 push_cast;omega
theorem C8{a b m:Int}(k:Nat)(hm:m=2^k)(h0:0≤a)(h1:a<m)(hb:0≤b)(hs:a+b*m<4294967296):bits .or .u32 a (b*m)=a+b*m:=by
 subst hm;exact A4D k h0 h1 hb hs
theorem V8{a b h m n z:Int}(k j:Nat)(hm:m=2^k)(hn:n=2^j)(hM:z=2^(k+j))(h0:0≤a)(h1:a<m)(b0:0≤b)(b1:b<n)(g0:0≤h)(hs:a+b*m+h*z<4294967296){w:Int}(hw:w=a+h*z):bits .or .u32 w (b*m)=a+b*m+h*z:=by
 subst hm hn hM hw;exact A4E k j h0 h1 b0 b1 g0 hs
def RvV(x:Rv):Value:=.agg #[.int .i64 x.o,.int .i64 x.d,.int .i64 x.a,.int .i64 x.b,.int .i64 x.i]
theorem L3{a:Int}(h0:0≤a)(h1:a<4294967296):bits .or .u32 a 0=a:=by
 obtain⟨n,rfl⟩:=Int.eq_ofNat_of_zero_le h0;have:=u9 n 0 (by omega) (by omega);simpa using this
theorem A9m{o:Int}(h0:0≤o)(h1:o≤14):fmR o=0:=by
 have:=G7 o (by omega) (by omega);omega
theorem A9l{o:Int}(h0:15≤o)(h1:o≤20):fmR o=1:=by
 have:=G7 o (by omega) (by omega);omega
theorem A9k{o:Int}(h0:21≤o)(h1:o≤23):fmR o=2:=by
 have:=G7 o (by omega) (by omega);omega
theorem A9j{o:Int}(h0:24≤o)(h1:o≤24):fmR o=3:=by
 have:=G7 o (by omega) (by omega);omega
theorem A9i{o:Int}(h0:25≤o)(h1:o≤27):fmR o=4:=by
 have:=G7 o (by omega) (by omega);omega
theorem A9h{o:Int}(h0:28≤o)(h1:o≤30):fmR o=5:=by
 have:=G7 o (by omega) (by omega);omega
theorem A9g{o:Int}(h0:31≤o)(h1:o≤36):fmR o=6:=by
 have:=G7 o (by omega) (by omega);omega
theorem A9f{o:Int}(h0:37≤o)(h1:o≤37):fmR o=7:=by
 have:=G7 o (by omega) (by omega);omega
theorem A9e{o:Int}(h0:38≤o)(h1:o≤38):fmR o=8:=by
 have:=G7 o (by omega) (by omega);omega
set_option maxHeartbeats 4000000 in
theorem A5U(o d a b i:Int)(w:World)(o0:0≤o)(o1:o≤14)(d0:0≤d)(d1:d<32)(a0:0≤a)(a1:a<32)(b0:0≤b)(b1:b<32)(hi:i=0):Calls prog 55 #[RvV ⟨o,d,a,b,i⟩] w fun e w'=>e= .returned (.int .u32 (G9 ⟨o,d,a,b,i⟩))∧Below w.heap.size w w':=by
 subst hi;show Calls prog 55 #[.agg #[.int .i64 o,.int .i64 d,.int .i64 a,.int .i64 b,.int .i64 0]] w _
 obtain⟨W1,hW1⟩:∃W,w.alloc (.cells #[.int .i64 o,.int .i64 d,.int .i64 a,.int .i64 b,.int .i64 0] 75)=W:=⟨_,rfl⟩
 have BB:Hid (Below w.heap.size w W1):=by rw[←hW1];exact(Below.refl _ _).alloc (Nat.le_refl _) _
 have x0:W1.cell? ⟨w.heap.size,0,none⟩=some (.int .i64 (o)):=by rw[←hW1];simp[go_sem]
 have x1:W1.cell? ⟨w.heap.size,1,none⟩=some (.int .i64 (d)):=by rw[←hW1];simp[go_sem]
 have x2:W1.cell? ⟨w.heap.size,2,none⟩=some (.int .i64 (a)):=by rw[←hW1];simp[go_sem]
 have x3:W1.cell? ⟨w.heap.size,3,none⟩=some (.int .i64 (b)):=by rw[←hW1];simp[go_sem]
 have x4:W1.cell? ⟨w.heap.size,4,none⟩=some (.int .i64 (0)):=by rw[←hW1];simp[go_sem]
 have CF:=hid (A1D o);have CC:Hid (∀w,Calls prog 87 #[.int .i64 0] w fun e w'=>e= .returned (.int .u32 51)∧w=w'):=hid (I4 0 (by decide));have CT:=hid (fun w=>I6 o w (by omega) (by omega));obtain⟨⟨t0,t1⟩,hsv,-⟩:=J2 (o:=o) (by omega) (by omega);obtain⟨t,ht⟩:∃t,thR o=t:=⟨_,rfl⟩
 rw[ht]at CT t0 t1;have CS:=hid (G6 o);obtain⟨s,hs⟩:∃s,svR o=s:=⟨_,rfl⟩
 rw[hs]at CS hsv;have s0:0≤s∧s≤32:=by omega
 obtain⟨A1,hA1⟩:∃x,(51:Int)+(d*128)=x:=⟨_,rfl⟩
 have r1:bits .or .u32 51 (d*128)=A1:=by rw[←hA1];exact C8 7 rfl (by omega) (by omega) (by omega) (by omega)
 obtain⟨A2,hA2⟩:∃x,(A1:Int)+(t*4096)=x:=⟨_,rfl⟩
 have r2:bits .or .u32 A1 (t*4096)=A2:=by rw[←hA2];exact C8 12 rfl (by omega) (by omega) (by omega) (by omega)
 obtain⟨A3,hA3⟩:∃x,(A2:Int)+(a*32768)=x:=⟨_,rfl⟩
 have r3:bits .or .u32 A2 (a*32768)=A3:=by rw[←hA3];exact C8 15 rfl (by omega) (by omega) (by omega) (by omega)
 obtain⟨A4,hA4⟩:∃x,(A3:Int)+(b*1048576)=x:=⟨_,rfl⟩
 have r4:bits .or .u32 A3 (b*1048576)=A4:=by rw[←hA4];exact C8 20 rfl (by omega) (by omega) (by omega) (by omega)
 obtain⟨R,hR⟩:∃x,A4+s*33554432=x:=⟨_,rfl⟩
 have r5:bits .or .u32 A4 (s*33554432)=R:=by rw[←hR];exact C8 25 rfl (by omega) (by omega) (by omega) (by omega)
 have HE:Hid (R=G9 ⟨o,d,a,b,0⟩):=hid (by
  have e:fmR o=0:=A9m (by omega) (by omega);unfold G9;simp only[e];show R=asm 51 d (thR o) a b (svR o)
  unfold asm;omega)
 have HBB:=hid BB.out;have HO:=hid o0;have HO1:=hid o1;clear hA1 hA2 hA3 hA4 ht hs hsv hR;exact A8v
set_option maxHeartbeats 4000000 in
theorem A5T(o d a b i:Int)(w:World)(o0:15≤o)(o1:o≤20)(d0:0≤d)(d1:d<32)(a0:0≤a)(a1:a<32)(b0:0≤b)(b1:b<32)(hi: -2048≤i∧i≤2047)(zb:b=0):Calls prog 55 #[RvV ⟨o,d,a,b,i⟩] w fun e w'=>e= .returned (.int .u32 (G9 ⟨o,d,a,b,i⟩))∧Below w.heap.size w w':=by
 subst zb;show Calls prog 55 #[.agg #[.int .i64 o,.int .i64 d,.int .i64 a,.int .i64 0,.int .i64 i]] w _
 obtain⟨W1,hW1⟩:∃W,w.alloc (.cells #[.int .i64 o,.int .i64 d,.int .i64 a,.int .i64 0,.int .i64 i] 75)=W:=⟨_,rfl⟩
 have BB:Hid (Below w.heap.size w W1):=by rw[←hW1];exact(Below.refl _ _).alloc (Nat.le_refl _) _
 have x0:W1.cell? ⟨w.heap.size,0,none⟩=some (.int .i64 (o)):=by rw[←hW1];simp[go_sem]
 have x1:W1.cell? ⟨w.heap.size,1,none⟩=some (.int .i64 (d)):=by rw[←hW1];simp[go_sem]
 have x2:W1.cell? ⟨w.heap.size,2,none⟩=some (.int .i64 (a)):=by rw[←hW1];simp[go_sem]
 have x3:W1.cell? ⟨w.heap.size,3,none⟩=some (.int .i64 (0)):=by rw[←hW1];simp[go_sem]
 have x4:W1.cell? ⟨w.heap.size,4,none⟩=some (.int .i64 (i)):=by rw[←hW1];simp[go_sem]
 have CF:=hid (A1C o);have CC:Hid (∀w,Calls prog 87 #[.int .i64 1] w fun e w'=>e= .returned (.int .u32 19)∧w=w'):=hid (I4 1 (by decide));have CT:=hid (fun w=>I6 o w (by omega) (by omega));obtain⟨⟨t0,t1⟩,hsv,-⟩:=J2 (o:=o) (by omega) (by omega);obtain⟨t,ht⟩:∃t,thR o=t:=⟨_,rfl⟩
 rw[ht]at CT t0 t1;have CS:=hid (G6 o);obtain⟨s,hs⟩:∃s,svR o=s:=⟨_,rfl⟩
 rw[hs]at CS hsv;have s0:0≤s∧s≤32:=by omega
 obtain⟨A1,hA1⟩:∃x,(19:Int)+(d*128)=x:=⟨_,rfl⟩
 have r1:bits .or .u32 19 (d*128)=A1:=by rw[←hA1];exact C8 7 rfl (by omega) (by omega) (by omega) (by omega)
 obtain⟨A2,hA2⟩:∃x,(A1:Int)+(t*4096)=x:=⟨_,rfl⟩
 have r2:bits .or .u32 A1 (t*4096)=A2:=by rw[←hA2];exact C8 12 rfl (by omega) (by omega) (by omega) (by omega)
 obtain⟨A3,hA3⟩:∃x,(A2:Int)+(a*32768)=x:=⟨_,rfl⟩
 have r3:bits .or .u32 A2 (a*32768)=A3:=by rw[←hA3];exact C8 15 rfl (by omega) (by omega) (by omega) (by omega)
 obtain⟨A4,hA4⟩:∃x,(A3:Int)+0=x:=⟨_,rfl⟩
 have r4:bits .or .u32 A3 0=A4:=by rw[←hA4,Int.add_zero];exact L3 (by omega) (by omega)
 have hm:i%4294967296*1048576%4294967296=i%4096*1048576:=by omega
 obtain⟨y,hy⟩:∃y,i%4096=y:=⟨_,rfl⟩
 rw[hy]at hm;obtain⟨R,hR⟩:∃x,A4+y*1048576=x:=⟨_,rfl⟩
 have r5:bits .or .u32 A4 (y*1048576)=R:=by rw[←hR];exact C8 20 rfl (by omega) (by omega) (by omega) (by omega)
 have HE:Hid (R=G9 ⟨o,d,a,0,i⟩):=hid (by
  have e:fmR o=1:=A9l (by omega) (by omega);unfold G9;simp only[e];show R=asm 19 d (thR o) a (i%32) (i / 32%128)
  unfold asm;omega)
 have HBB:=hid BB.out;have HO:=hid o0;have HO1:=hid o1;clear hA1 hA2 hA3 hA4 ht hs hsv hR hy;exact A7Q
set_option maxHeartbeats 4000000 in
theorem A5S(o d a b i:Int)(w:World)(o0:21≤o)(o1:o≤23)(d0:0≤d)(d1:d<32)(a0:0≤a)(a1:a<32)(b0:0≤b)(b1:b<32)(hi:0≤i∧i≤31)(zb:b=0):Calls prog 55 #[RvV ⟨o,d,a,b,i⟩] w fun e w'=>e= .returned (.int .u32 (G9 ⟨o,d,a,b,i⟩))∧Below w.heap.size w w':=by
 subst zb;show Calls prog 55 #[.agg #[.int .i64 o,.int .i64 d,.int .i64 a,.int .i64 0,.int .i64 i]] w _
 obtain⟨W1,hW1⟩:∃W,w.alloc (.cells #[.int .i64 o,.int .i64 d,.int .i64 a,.int .i64 0,.int .i64 i] 75)=W:=⟨_,rfl⟩
 have BB:Hid (Below w.heap.size w W1):=by rw[←hW1];exact(Below.refl _ _).alloc (Nat.le_refl _) _
 have x0:W1.cell? ⟨w.heap.size,0,none⟩=some (.int .i64 (o)):=by rw[←hW1];simp[go_sem]
 have x1:W1.cell? ⟨w.heap.size,1,none⟩=some (.int .i64 (d)):=by rw[←hW1];simp[go_sem]
 have x2:W1.cell? ⟨w.heap.size,2,none⟩=some (.int .i64 (a)):=by rw[←hW1];simp[go_sem]
 have x3:W1.cell? ⟨w.heap.size,3,none⟩=some (.int .i64 (0)):=by rw[←hW1];simp[go_sem]
 have x4:W1.cell? ⟨w.heap.size,4,none⟩=some (.int .i64 (i)):=by rw[←hW1];simp[go_sem]
 have CF:=hid (A1B o);have CC:Hid (∀w,Calls prog 87 #[.int .i64 2] w fun e w'=>e= .returned (.int .u32 19)∧w=w'):=hid (I4 2 (by decide));have CT:=hid (fun w=>I6 o w (by omega) (by omega));obtain⟨⟨t0,t1⟩,hsv,-⟩:=J2 (o:=o) (by omega) (by omega);obtain⟨t,ht⟩:∃t,thR o=t:=⟨_,rfl⟩
 rw[ht]at CT t0 t1;have CS:=hid (G6 o);obtain⟨s,hs⟩:∃s,svR o=s:=⟨_,rfl⟩
 rw[hs]at CS hsv;have s0:0≤s∧s≤32:=by omega
 obtain⟨A1,hA1⟩:∃x,(19:Int)+(d*128)=x:=⟨_,rfl⟩
 have r1:bits .or .u32 19 (d*128)=A1:=by rw[←hA1];exact C8 7 rfl (by omega) (by omega) (by omega) (by omega)
 obtain⟨A2,hA2⟩:∃x,(A1:Int)+(t*4096)=x:=⟨_,rfl⟩
 have r2:bits .or .u32 A1 (t*4096)=A2:=by rw[←hA2];exact C8 12 rfl (by omega) (by omega) (by omega) (by omega)
 obtain⟨A3,hA3⟩:∃x,(A2:Int)+(a*32768)=x:=⟨_,rfl⟩
 have r3:bits .or .u32 A2 (a*32768)=A3:=by rw[←hA3];exact C8 15 rfl (by omega) (by omega) (by omega) (by omega)
 obtain⟨A4,hA4⟩:∃x,(A3:Int)+0=x:=⟨_,rfl⟩
 have r4:bits .or .u32 A3 0=A4:=by rw[←hA4,Int.add_zero];exact L3 (by omega) (by omega)
 obtain⟨A5,hA5⟩:∃x,A4+i*1048576=x:=⟨_,rfl⟩
 have r5:bits .or .u32 A4 (i*1048576)=A5:=by rw[←hA5];exact C8 20 rfl (by omega) (by omega) (by omega) (by omega)
 obtain⟨R,hR⟩:∃x,A5+s*33554432=x:=⟨_,rfl⟩
 have r6:bits .or .u32 A5 (s*33554432)=R:=by rw[←hR];exact C8 25 rfl (by omega) (by omega) (by omega) (by omega)
 have HE:Hid (R=G9 ⟨o,d,a,0,i⟩):=hid (by
  have e:fmR o=2:=A9k (by omega) (by omega);unfold G9;simp only[e];show R=asm 19 d (thR o) a i (svR o)
  unfold asm;omega)
 have HBB:=hid BB.out;have HO:=hid o0;have HO1:=hid o1;clear hA1 hA2 hA3 hA4 ht hs hsv hA5 hR;exact A8v
set_option maxHeartbeats 4000000 in
theorem A5R(o d a b i:Int)(w:World)(o0:24≤o)(o1:o≤24)(d0:0≤d)(d1:d<32)(a0:0≤a)(a1:a<32)(b0:0≤b)(b1:b<32)(hi:0≤i∧i<1048576)(za:a=0)(zb:b=0):Calls prog 55 #[RvV ⟨o,d,a,b,i⟩] w fun e w'=>e= .returned (.int .u32 (G9 ⟨o,d,a,b,i⟩))∧Below w.heap.size w w':=by
 subst za;subst zb;show Calls prog 55 #[.agg #[.int .i64 o,.int .i64 d,.int .i64 0,.int .i64 0,.int .i64 i]] w _
 obtain⟨W1,hW1⟩:∃W,w.alloc (.cells #[.int .i64 o,.int .i64 d,.int .i64 0,.int .i64 0,.int .i64 i] 75)=W:=⟨_,rfl⟩
 have BB:Hid (Below w.heap.size w W1):=by rw[←hW1];exact(Below.refl _ _).alloc (Nat.le_refl _) _
 have x0:W1.cell? ⟨w.heap.size,0,none⟩=some (.int .i64 (o)):=by rw[←hW1];simp[go_sem]
 have x1:W1.cell? ⟨w.heap.size,1,none⟩=some (.int .i64 (d)):=by rw[←hW1];simp[go_sem]
 have x2:W1.cell? ⟨w.heap.size,2,none⟩=some (.int .i64 (0)):=by rw[←hW1];simp[go_sem]
 have x3:W1.cell? ⟨w.heap.size,3,none⟩=some (.int .i64 (0)):=by rw[←hW1];simp[go_sem]
 have x4:W1.cell? ⟨w.heap.size,4,none⟩=some (.int .i64 (i)):=by rw[←hW1];simp[go_sem]
 have CF:=hid (A1A o);have CC:Hid (∀w,Calls prog 87 #[.int .i64 3] w fun e w'=>e= .returned (.int .u32 55)∧w=w'):=hid (I4 3 (by decide));have CT:=hid (fun w=>I6 o w (by omega) (by omega));obtain⟨⟨t0,t1⟩,hsv,-⟩:=J2 (o:=o) (by omega) (by omega);obtain⟨t,ht⟩:∃t,thR o=t:=⟨_,rfl⟩
 rw[ht]at CT t0 t1;have CS:=hid (G6 o);obtain⟨s,hs⟩:∃s,svR o=s:=⟨_,rfl⟩
 rw[hs]at CS hsv;have s0:0≤s∧s≤32:=by omega
 obtain⟨A1,hA1⟩:∃x,(55:Int)+(d*128)=x:=⟨_,rfl⟩
 have r1:bits .or .u32 55 (d*128)=A1:=by rw[←hA1];exact C8 7 rfl (by omega) (by omega) (by omega) (by omega)
 obtain⟨A2,hA2⟩:∃x,(A1:Int)+(t*4096)=x:=⟨_,rfl⟩
 have r2:bits .or .u32 A1 (t*4096)=A2:=by rw[←hA2];exact C8 12 rfl (by omega) (by omega) (by omega) (by omega)
 obtain⟨A3,hA3⟩:∃x,(A2:Int)+0=x:=⟨_,rfl⟩
 have r3:bits .or .u32 A2 0=A3:=by rw[←hA3,Int.add_zero];exact L3 (by omega) (by omega)
 obtain⟨A4,hA4⟩:∃x,(A3:Int)+0=x:=⟨_,rfl⟩
 have r4:bits .or .u32 A3 0=A4:=by rw[←hA4,Int.add_zero];exact L3 (by omega) (by omega)
 obtain⟨R,hR⟩:∃x,A1+i*4096=x:=⟨_,rfl⟩
 have r5:bits .or .u32 A1 (i*4096)=R:=by rw[←hR];exact C8 12 rfl (by omega) (by omega) (by omega) (by omega)
 have HE:Hid (R=G9 ⟨o,d,0,0,i⟩):=hid (by
  have e:fmR o=3:=A9j (by omega) (by omega);unfold G9;simp only[e];show R=asm 55 d (i%8) (i / 8%32) (i / 256%32) (i / 8192%128)
  unfold asm;omega)
 have HBB:=hid BB.out;have HO:=hid o0;have HO1:=hid o1;clear hA1 hA2 hA3 hA4 ht hs hsv hR;go_enter func55,ntmps55;go_upto_region 3 with(go_at_call 84;(with_reducible refine(CF.out _ HO.out HO1.out).mono ?_);rintro e w' ⟨rfl,rfl⟩)
 go_quiet((first|(go_at_call 87;with_reducible exact D8 (CC.out _))|(go_at_call 88;with_reducible exact D8 (CT.out _))))
 have HN:=hid (Dr.below (w:=W1) ⟨nq,rfl⟩ w.heap.size);have y0:(W1.drewN nq).cell? ⟨w.heap.size,0,none⟩=some (.int .i64 (o)):=by rw[←x0];simp
 have y1:(W1.drewN nq).cell? ⟨w.heap.size,1,none⟩=some (.int .i64 (d)):=by rw[←x1];simp
 have y2:(W1.drewN nq).cell? ⟨w.heap.size,2,none⟩=some (.int .i64 (0)):=by rw[←x2];simp
 have y3:(W1.drewN nq).cell? ⟨w.heap.size,3,none⟩=some (.int .i64 (0)):=by rw[←x3];simp
 have y4:(W1.drewN nq).cell? ⟨w.heap.size,4,none⟩=some (.int .i64 (i)):=by rw[←x4];simp
 generalize W1.drewN nq=wq at*
 go_upto_region 14 with fail
 go_quiet((go_at_call 87;with_reducible exact D8 (CC.out _)))
 have HN2:=hid (Dr.below (w:=wq) ⟨nq,rfl⟩ w.heap.size);go_wp2_with fail
 go_ret;exact⟨E9 HE.out,(HBB.out.trans HN.out).trans HN2.out⟩
set_option maxHeartbeats 4000000 in
theorem A5Q(o d a b i:Int)(w:World)(o0:25≤o)(o1:o≤27)(d0:0≤d)(d1:d<32)(a0:0≤a)(a1:a<32)(b0:0≤b)(b1:b<32)(hi: -2048≤i∧i≤2047)(zb:b=0):Calls prog 55 #[RvV ⟨o,d,a,b,i⟩] w fun e w'=>e= .returned (.int .u32 (G9 ⟨o,d,a,b,i⟩))∧Below w.heap.size w w':=by
 subst zb;show Calls prog 55 #[.agg #[.int .i64 o,.int .i64 d,.int .i64 a,.int .i64 0,.int .i64 i]] w _
 obtain⟨W1,hW1⟩:∃W,w.alloc (.cells #[.int .i64 o,.int .i64 d,.int .i64 a,.int .i64 0,.int .i64 i] 75)=W:=⟨_,rfl⟩
 have BB:Hid (Below w.heap.size w W1):=by rw[←hW1];exact(Below.refl _ _).alloc (Nat.le_refl _) _
 have x0:W1.cell? ⟨w.heap.size,0,none⟩=some (.int .i64 (o)):=by rw[←hW1];simp[go_sem]
 have x1:W1.cell? ⟨w.heap.size,1,none⟩=some (.int .i64 (d)):=by rw[←hW1];simp[go_sem]
 have x2:W1.cell? ⟨w.heap.size,2,none⟩=some (.int .i64 (a)):=by rw[←hW1];simp[go_sem]
 have x3:W1.cell? ⟨w.heap.size,3,none⟩=some (.int .i64 (0)):=by rw[←hW1];simp[go_sem]
 have x4:W1.cell? ⟨w.heap.size,4,none⟩=some (.int .i64 (i)):=by rw[←hW1];simp[go_sem]
 have CF:=hid (A0z o);have CC:Hid (∀w,Calls prog 87 #[.int .i64 4] w fun e w'=>e= .returned (.int .u32 3)∧w=w'):=hid (I4 4 (by decide));have CT:=hid (fun w=>I6 o w (by omega) (by omega));obtain⟨⟨t0,t1⟩,hsv,-⟩:=J2 (o:=o) (by omega) (by omega);obtain⟨t,ht⟩:∃t,thR o=t:=⟨_,rfl⟩
 rw[ht]at CT t0 t1;have CS:=hid (G6 o);obtain⟨s,hs⟩:∃s,svR o=s:=⟨_,rfl⟩
 rw[hs]at CS hsv;have s0:0≤s∧s≤32:=by omega
 obtain⟨A1,hA1⟩:∃x,(3:Int)+(d*128)=x:=⟨_,rfl⟩
 have r1:bits .or .u32 3 (d*128)=A1:=by rw[←hA1];exact C8 7 rfl (by omega) (by omega) (by omega) (by omega)
 obtain⟨A2,hA2⟩:∃x,(A1:Int)+(t*4096)=x:=⟨_,rfl⟩
 have r2:bits .or .u32 A1 (t*4096)=A2:=by rw[←hA2];exact C8 12 rfl (by omega) (by omega) (by omega) (by omega)
 obtain⟨A3,hA3⟩:∃x,(A2:Int)+(a*32768)=x:=⟨_,rfl⟩
 have r3:bits .or .u32 A2 (a*32768)=A3:=by rw[←hA3];exact C8 15 rfl (by omega) (by omega) (by omega) (by omega)
 obtain⟨A4,hA4⟩:∃x,(A3:Int)+0=x:=⟨_,rfl⟩
 have r4:bits .or .u32 A3 0=A4:=by rw[←hA4,Int.add_zero];exact L3 (by omega) (by omega)
 have hm:i%4294967296*1048576%4294967296=i%4096*1048576:=by omega
 obtain⟨y,hy⟩:∃y,i%4096=y:=⟨_,rfl⟩
 rw[hy]at hm;obtain⟨R,hR⟩:∃x,A4+y*1048576=x:=⟨_,rfl⟩
 have r5:bits .or .u32 A4 (y*1048576)=R:=by rw[←hR];exact C8 20 rfl (by omega) (by omega) (by omega) (by omega)
 have HE:Hid (R=G9 ⟨o,d,a,0,i⟩):=hid (by
  have e:fmR o=4:=A9i (by omega) (by omega);unfold G9;simp only[e];show R=asm 3 d (thR o) a (i%32) (i / 32%128)
  unfold asm;omega)
 have HBB:=hid BB.out;have HO:=hid o0;have HO1:=hid o1;clear hA1 hA2 hA3 hA4 ht hs hsv hR hy;exact A7Q
set_option maxHeartbeats 4000000 in
theorem A5P(o d a b i:Int)(w:World)(o0:28≤o)(o1:o≤30)(d0:0≤d)(d1:d<32)(a0:0≤a)(a1:a<32)(b0:0≤b)(b1:b<32)(hi: -2048≤i∧i≤2047)(zd:d=0):Calls prog 55 #[RvV ⟨o,d,a,b,i⟩] w fun e w'=>e= .returned (.int .u32 (G9 ⟨o,d,a,b,i⟩))∧Below w.heap.size w w':=by
 subst zd;show Calls prog 55 #[.agg #[.int .i64 o,.int .i64 0,.int .i64 a,.int .i64 b,.int .i64 i]] w _
 obtain⟨W1,hW1⟩:∃W,w.alloc (.cells #[.int .i64 o,.int .i64 0,.int .i64 a,.int .i64 b,.int .i64 i] 75)=W:=⟨_,rfl⟩
 have BB:Hid (Below w.heap.size w W1):=by rw[←hW1];exact(Below.refl _ _).alloc (Nat.le_refl _) _
 have x0:W1.cell? ⟨w.heap.size,0,none⟩=some (.int .i64 (o)):=by rw[←hW1];simp[go_sem]
 have x1:W1.cell? ⟨w.heap.size,1,none⟩=some (.int .i64 (0)):=by rw[←hW1];simp[go_sem]
 have x2:W1.cell? ⟨w.heap.size,2,none⟩=some (.int .i64 (a)):=by rw[←hW1];simp[go_sem]
 have x3:W1.cell? ⟨w.heap.size,3,none⟩=some (.int .i64 (b)):=by rw[←hW1];simp[go_sem]
 have x4:W1.cell? ⟨w.heap.size,4,none⟩=some (.int .i64 (i)):=by rw[←hW1];simp[go_sem]
 have CF:=hid (A0y o);have CC:Hid (∀w,Calls prog 87 #[.int .i64 5] w fun e w'=>e= .returned (.int .u32 35)∧w=w'):=hid (I4 5 (by decide));have CT:=hid (fun w=>I6 o w (by omega) (by omega));obtain⟨⟨t0,t1⟩,hsv,-⟩:=J2 (o:=o) (by omega) (by omega);obtain⟨t,ht⟩:∃t,thR o=t:=⟨_,rfl⟩
 rw[ht]at CT t0 t1;have CS:=hid (G6 o);obtain⟨s,hs⟩:∃s,svR o=s:=⟨_,rfl⟩
 rw[hs]at CS hsv;have s0:0≤s∧s≤32:=by omega
 obtain⟨A1,hA1⟩:∃x,(35:Int)+0=x:=⟨_,rfl⟩
 have r1:bits .or .u32 35 0=A1:=by rw[←hA1,Int.add_zero];exact L3 (by omega) (by omega)
 obtain⟨A2,hA2⟩:∃x,(A1:Int)+(t*4096)=x:=⟨_,rfl⟩
 have r2:bits .or .u32 A1 (t*4096)=A2:=by rw[←hA2];exact C8 12 rfl (by omega) (by omega) (by omega) (by omega)
 obtain⟨A3,hA3⟩:∃x,(A2:Int)+(a*32768)=x:=⟨_,rfl⟩
 have r3:bits .or .u32 A2 (a*32768)=A3:=by rw[←hA3];exact C8 15 rfl (by omega) (by omega) (by omega) (by omega)
 obtain⟨A4,hA4⟩:∃x,(A3:Int)+(b*1048576)=x:=⟨_,rfl⟩
 have r4:bits .or .u32 A3 (b*1048576)=A4:=by rw[←hA4];exact C8 20 rfl (by omega) (by omega) (by omega) (by omega)
 obtain⟨m,hm⟩:∃m,i%4294967296=m:=⟨_,rfl⟩
 have m0:0≤m∧m<4294967296:=by omega
 obtain⟨y0,hy0⟩:∃y,m%32=y:=⟨_,rfl⟩
 have e0:y0=i%32:=by omega
 have g0:0≤y0∧y0<32:=by omega
 have CB0:=hid (fun w=>A3s m m0.1 m0.2 w);rw[hy0]at CB0;obtain⟨y1,hy1⟩:∃y,m / 32%128=y:=⟨_,rfl⟩
 have e1:y1=i / 32%128:=by omega
 have g1:0≤y1∧y1<128:=by omega
 have CB1:=hid (fun w=>A2V m m0.1 m0.2 w);rw[hy1]at CB1;clear hy0 hy1;obtain⟨B0,hB0⟩:∃x,(A4:Int)+y0*128=x:=⟨_,rfl⟩
 have v0:bits .or .u32 A4 (y0*128)=B0:=by
  rw[←hB0,show A4+y0*128=35+y0*128+(t+a*8+b*256)*4096 by omega];exact V8 7 5 rfl rfl rfl (n:=32) (by omega) (by omega) (by omega) (by omega) (by omega) (by omega) (by omega)
 obtain⟨R,hR⟩:∃x,(B0:Int)+y1*33554432=x:=⟨_,rfl⟩
 have v1:bits .or .u32 B0 (y1*33554432)=R:=by rw[←hR];exact C8 25 rfl (by omega) (by omega) (by omega) (by omega)
 have HE:Hid (R=G9 ⟨o,0,a,b,i⟩):=hid (by
  have e:fmR o=5:=A9h (by omega) (by omega);unfold G9;simp only[e];show R=asm 35 (i%32) (thR o) a b (i / 32%128)
  unfold asm;omega)
 have HBB:=hid BB.out;have HO:=hid o0;have HO1:=hid o1;clear hA1 hA2 hA3 hA4 ht hs hsv e0 e1 hB0 hR;go_enter func55,ntmps55;go_upto_region 3 with(go_at_call 84;(with_reducible refine(CF.out _ HO.out HO1.out).mono ?_);rintro e w' ⟨rfl,rfl⟩)
 go_quiet((first|(go_at_call 87;with_reducible exact D8 (CC.out _))|(go_at_call 88;with_reducible exact D8 (CT.out _))))
 have HN:=hid (Dr.below (w:=W1) ⟨nq,rfl⟩ w.heap.size);go_wp2_with(first|(go_at_call 90;(with_reducible refine(CB0.out _).mono ?_);rintro e wb ⟨rfl,hd0⟩)|(go_at_call 90;(with_reducible refine(CB1.out _).mono ?_);rintro e wb ⟨rfl,hd1⟩))
 go_ret;exact⟨E9 HE.out,((HBB.out.trans HN.out).trans (hd0.below _)).trans (hd1.below _)⟩
set_option maxHeartbeats 4000000 in
theorem A5O(o d a b i:Int)(w:World)(o0:31≤o)(o1:o≤36)(d0:0≤d)(d1:d<32)(a0:0≤a)(a1:a<32)(b0:0≤b)(b1:b<32)(hi: -4096≤i∧i≤4094∧i%2=0)(zd:d=0):Calls prog 55 #[RvV ⟨o,d,a,b,i⟩] w fun e w'=>e= .returned (.int .u32 (G9 ⟨o,d,a,b,i⟩))∧Below w.heap.size w w':=by
 subst zd;show Calls prog 55 #[.agg #[.int .i64 o,.int .i64 0,.int .i64 a,.int .i64 b,.int .i64 i]] w _
 obtain⟨W1,hW1⟩:∃W,w.alloc (.cells #[.int .i64 o,.int .i64 0,.int .i64 a,.int .i64 b,.int .i64 i] 75)=W:=⟨_,rfl⟩
 have BB:Hid (Below w.heap.size w W1):=by rw[←hW1];exact(Below.refl _ _).alloc (Nat.le_refl _) _
 have x0:W1.cell? ⟨w.heap.size,0,none⟩=some (.int .i64 (o)):=by rw[←hW1];simp[go_sem]
 have x1:W1.cell? ⟨w.heap.size,1,none⟩=some (.int .i64 (0)):=by rw[←hW1];simp[go_sem]
 have x2:W1.cell? ⟨w.heap.size,2,none⟩=some (.int .i64 (a)):=by rw[←hW1];simp[go_sem]
 have x3:W1.cell? ⟨w.heap.size,3,none⟩=some (.int .i64 (b)):=by rw[←hW1];simp[go_sem]
 have x4:W1.cell? ⟨w.heap.size,4,none⟩=some (.int .i64 (i)):=by rw[←hW1];simp[go_sem]
 have CF:=hid (A0x o);have CC:Hid (∀w,Calls prog 87 #[.int .i64 6] w fun e w'=>e= .returned (.int .u32 99)∧w=w'):=hid (I4 6 (by decide));have CT:=hid (fun w=>I6 o w (by omega) (by omega));obtain⟨⟨t0,t1⟩,hsv,-⟩:=J2 (o:=o) (by omega) (by omega);obtain⟨t,ht⟩:∃t,thR o=t:=⟨_,rfl⟩
 rw[ht]at CT t0 t1;have CS:=hid (G6 o);obtain⟨s,hs⟩:∃s,svR o=s:=⟨_,rfl⟩
 rw[hs]at CS hsv;have s0:0≤s∧s≤32:=by omega
 obtain⟨A1,hA1⟩:∃x,(99:Int)+0=x:=⟨_,rfl⟩
 have r1:bits .or .u32 99 0=A1:=by rw[←hA1,Int.add_zero];exact L3 (by omega) (by omega)
 obtain⟨A2,hA2⟩:∃x,(A1:Int)+(t*4096)=x:=⟨_,rfl⟩
 have r2:bits .or .u32 A1 (t*4096)=A2:=by rw[←hA2];exact C8 12 rfl (by omega) (by omega) (by omega) (by omega)
 obtain⟨A3,hA3⟩:∃x,(A2:Int)+(a*32768)=x:=⟨_,rfl⟩
 have r3:bits .or .u32 A2 (a*32768)=A3:=by rw[←hA3];exact C8 15 rfl (by omega) (by omega) (by omega) (by omega)
 obtain⟨A4,hA4⟩:∃x,(A3:Int)+(b*1048576)=x:=⟨_,rfl⟩
 have r4:bits .or .u32 A3 (b*1048576)=A4:=by rw[←hA4];exact C8 20 rfl (by omega) (by omega) (by omega) (by omega)
 obtain⟨m,hm⟩:∃m,i%4294967296=m:=⟨_,rfl⟩
 have m0:0≤m∧m<4294967296:=by omega
 obtain⟨y0,hy0⟩:∃y,m / 2048%2=y:=⟨_,rfl⟩
 have e0:y0=i / 2048%2:=by omega
 have g0:0≤y0∧y0<2:=by omega
 have CB0:=hid (fun w=>A2X m m0.1 m0.2 w);rw[hy0]at CB0;obtain⟨y1,hy1⟩:∃y,m / 2%16=y:=⟨_,rfl⟩
 have e1:y1=i / 2%16:=by omega
 have g1:0≤y1∧y1<16:=by omega
 have CB1:=hid (fun w=>A3r m m0.1 m0.2 w);rw[hy1]at CB1;obtain⟨y2,hy2⟩:∃y,m / 32%64=y:=⟨_,rfl⟩
 have e2:y2=i / 32%64:=by omega
 have g2:0≤y2∧y2<64:=by omega
 have CB2:=hid (fun w=>A2W m m0.1 m0.2 w);rw[hy2]at CB2;obtain⟨y3,hy3⟩:∃y,m / 4096%2=y:=⟨_,rfl⟩
 have e3:y3=i / 4096%2:=by omega
 have g3:0≤y3∧y3<2:=by omega
 have CB3:=hid (fun w=>A1V m m0.1 m0.2 w);rw[hy3]at CB3;clear hy0 hy1 hy2 hy3;obtain⟨B0,hB0⟩:∃x,(A4:Int)+y0*128=x:=⟨_,rfl⟩
 have v0:bits .or .u32 A4 (y0*128)=B0:=by
  rw[←hB0,show A4+y0*128=99+y0*128+(t+a*8+b*256)*4096 by omega];exact V8 7 5 rfl rfl rfl (n:=32) (by omega) (by omega) (by omega) (by omega) (by omega) (by omega) (by omega)
 obtain⟨B1,hB1⟩:∃x,(B0:Int)+y1*256=x:=⟨_,rfl⟩
 have v1:bits .or .u32 B0 (y1*256)=B1:=by
  rw[←hB1,show B0+y1*256=(99+y0*128)+y1*256+(t+a*8+b*256)*4096 by omega];exact V8 8 4 rfl rfl rfl (n:=16) (by omega) (by omega) (by omega) (by omega) (by omega) (by omega) (by omega)
 obtain⟨B2,hB2⟩:∃x,(B1:Int)+y2*33554432=x:=⟨_,rfl⟩
 have v2:bits .or .u32 B1 (y2*33554432)=B2:=by rw[←hB2];exact C8 25 rfl (by omega) (by omega) (by omega) (by omega)
 obtain⟨R,hR⟩:∃x,(B2:Int)+y3*2147483648=x:=⟨_,rfl⟩
 have v3:bits .or .u32 B2 (y3*2147483648)=R:=by rw[←hR];exact C8 31 rfl (by omega) (by omega) (by omega) (by omega)
 have HE:Hid (R=G9 ⟨o,0,a,b,i⟩):=hid (by
  have e:fmR o=6:=A9g (by omega) (by omega);unfold G9;simp only[e];show R=asm 99 (i / 2048%2+i / 2%16*2) (thR o) a b (i / 32%64+i / 4096%2*64)
  unfold asm;omega)
 have HBB:=hid BB.out;have HO:=hid o0;have HO1:=hid o1;clear hA1 hA2 hA3 hA4 ht hs hsv e0 e1 e2 e3 hB0 hB1 hB2 hR;go_enter func55,ntmps55;go_upto_region 3 with(go_at_call 84;(with_reducible refine(CF.out _ HO.out HO1.out).mono ?_);rintro e w' ⟨rfl,rfl⟩)
 go_quiet((first|(go_at_call 87;with_reducible exact D8 (CC.out _))|(go_at_call 88;with_reducible exact D8 (CT.out _))))
 have HN:=hid (Dr.below (w:=W1) ⟨nq,rfl⟩ w.heap.size);go_wp2_with(first|(go_at_call 90;(with_reducible refine(CB0.out _).mono ?_);rintro e wb ⟨rfl,hd0⟩)|(go_at_call 90;(with_reducible refine(CB1.out _).mono ?_);rintro e wb ⟨rfl,hd1⟩)|(go_at_call 90;(with_reducible refine(CB2.out _).mono ?_);rintro e wb ⟨rfl,hd2⟩)|(go_at_call 90;(with_reducible refine(CB3.out _).mono ?_);rintro e wb ⟨rfl,hd3⟩))
 go_ret;exact⟨E9 HE.out,((((HBB.out.trans HN.out).trans (hd0.below _)).trans (hd1.below _)).trans (hd2.below _)).trans (hd3.below _)⟩
set_option maxHeartbeats 4000000 in
theorem A5N(o d a b i:Int)(w:World)(o0:37≤o)(o1:o≤37)(d0:0≤d)(d1:d<32)(a0:0≤a)(a1:a<32)(b0:0≤b)(b1:b<32)(hi: -1048576≤i∧i≤1048574∧i%2=0)(za:a=0)(zb:b=0):Calls prog 55 #[RvV ⟨o,d,a,b,i⟩] w fun e w'=>e= .returned (.int .u32 (G9 ⟨o,d,a,b,i⟩))∧Below w.heap.size w w':=by
 subst za;subst zb;show Calls prog 55 #[.agg #[.int .i64 o,.int .i64 d,.int .i64 0,.int .i64 0,.int .i64 i]] w _
 obtain⟨W1,hW1⟩:∃W,w.alloc (.cells #[.int .i64 o,.int .i64 d,.int .i64 0,.int .i64 0,.int .i64 i] 75)=W:=⟨_,rfl⟩
 have BB:Hid (Below w.heap.size w W1):=by rw[←hW1];exact(Below.refl _ _).alloc (Nat.le_refl _) _
 have x0:W1.cell? ⟨w.heap.size,0,none⟩=some (.int .i64 (o)):=by rw[←hW1];simp[go_sem]
 have x1:W1.cell? ⟨w.heap.size,1,none⟩=some (.int .i64 (d)):=by rw[←hW1];simp[go_sem]
 have x2:W1.cell? ⟨w.heap.size,2,none⟩=some (.int .i64 (0)):=by rw[←hW1];simp[go_sem]
 have x3:W1.cell? ⟨w.heap.size,3,none⟩=some (.int .i64 (0)):=by rw[←hW1];simp[go_sem]
 have x4:W1.cell? ⟨w.heap.size,4,none⟩=some (.int .i64 (i)):=by rw[←hW1];simp[go_sem]
 have CF:=hid (A0w o);have CC:Hid (∀w,Calls prog 87 #[.int .i64 7] w fun e w'=>e= .returned (.int .u32 111)∧w=w'):=hid (I4 7 (by decide));have CT:=hid (fun w=>I6 o w (by omega) (by omega));obtain⟨⟨t0,t1⟩,hsv,-⟩:=J2 (o:=o) (by omega) (by omega);obtain⟨t,ht⟩:∃t,thR o=t:=⟨_,rfl⟩
 rw[ht]at CT t0 t1;have CS:=hid (G6 o);obtain⟨s,hs⟩:∃s,svR o=s:=⟨_,rfl⟩
 rw[hs]at CS hsv;have s0:0≤s∧s≤32:=by omega
 have ht0:t=0:=by rw[←ht];unfold thR;rw[if_pos (by omega)]
 obtain⟨A1,hA1⟩:∃x,(111:Int)+(d*128)=x:=⟨_,rfl⟩
 have r1:bits .or .u32 111 (d*128)=A1:=by rw[←hA1];exact C8 7 rfl (by omega) (by omega) (by omega) (by omega)
 obtain⟨A2,hA2⟩:∃x,(A1:Int)+(t*4096)=x:=⟨_,rfl⟩
 have r2:bits .or .u32 A1 (t*4096)=A2:=by rw[←hA2];exact C8 12 rfl (by omega) (by omega) (by omega) (by omega)
 obtain⟨A3,hA3⟩:∃x,(A2:Int)+0=x:=⟨_,rfl⟩
 have r3:bits .or .u32 A2 0=A3:=by rw[←hA3,Int.add_zero];exact L3 (by omega) (by omega)
 obtain⟨A4,hA4⟩:∃x,(A3:Int)+0=x:=⟨_,rfl⟩
 have r4:bits .or .u32 A3 0=A4:=by rw[←hA4,Int.add_zero];exact L3 (by omega) (by omega)
 obtain⟨m,hm⟩:∃m,i%4294967296=m:=⟨_,rfl⟩
 have m0:0≤m∧m<4294967296:=by omega
 obtain⟨y0,hy0⟩:∃y,m / 4096%256=y:=⟨_,rfl⟩
 have e0:y0=i / 4096%256:=by omega
 have g0:0≤y0∧y0<256:=by omega
 have CB0:=hid (fun w=>A1U m m0.1 m0.2 w);rw[hy0]at CB0;obtain⟨y1,hy1⟩:∃y,m / 2048%2=y:=⟨_,rfl⟩
 have e1:y1=i / 2048%2:=by omega
 have g1:0≤y1∧y1<2:=by omega
 have CB1:=hid (fun w=>A1W m m0.1 m0.2 w);rw[hy1]at CB1;obtain⟨y2,hy2⟩:∃y,m / 2%1024=y:=⟨_,rfl⟩
 have e2:y2=i / 2%1024:=by omega
 have g2:0≤y2∧y2<1024:=by omega
 have CB2:=hid (fun w=>A1T m m0.1 m0.2 w);rw[hy2]at CB2;obtain⟨y3,hy3⟩:∃y,m / 1048576%2=y:=⟨_,rfl⟩
 have e3:y3=i / 1048576%2:=by omega
 have g3:0≤y3∧y3<2:=by omega
 have CB3:=hid (fun w=>A1S m m0.1 m0.2 w);rw[hy3]at CB3;clear hy0 hy1 hy2 hy3;obtain⟨B0,hB0⟩:∃x,(A1:Int)+y0*4096=x:=⟨_,rfl⟩
 have v0:bits .or .u32 A1 (y0*4096)=B0:=by rw[←hB0];exact C8 12 rfl (by omega) (by omega) (by omega) (by omega)
 obtain⟨B1,hB1⟩:∃x,(B0:Int)+y1*1048576=x:=⟨_,rfl⟩
 have v1:bits .or .u32 B0 (y1*1048576)=B1:=by rw[←hB1];exact C8 20 rfl (by omega) (by omega) (by omega) (by omega)
 obtain⟨B2,hB2⟩:∃x,(B1:Int)+y2*2097152=x:=⟨_,rfl⟩
 have v2:bits .or .u32 B1 (y2*2097152)=B2:=by rw[←hB2];exact C8 21 rfl (by omega) (by omega) (by omega) (by omega)
 obtain⟨R,hR⟩:∃x,(B2:Int)+y3*2147483648=x:=⟨_,rfl⟩
 have v3:bits .or .u32 B2 (y3*2147483648)=R:=by rw[←hR];exact C8 31 rfl (by omega) (by omega) (by omega) (by omega)
 have HE:Hid (R=G9 ⟨o,d,0,0,i⟩):=hid (by
  have e:fmR o=7:=A9f (by omega) (by omega);unfold G9;simp only[e];show R=asm 111 d (i / 4096%8) (i / 32768%32) (i / 2048%2+i / 2%16*2) (i / 32%64+i / 1048576%2*64)
  have n1:i / 4096%256=i / 4096%8+i / 32768%32*8:=by omega
  have n2:i / 2%1024=i / 2%16+i / 32%64*16:=by omega
  unfold asm;omega)
 have HBB:=hid BB.out;have HO:=hid o0;have HO1:=hid o1;clear hA1 hA2 hA3 hA4 ht hs hsv e0 e1 e2 e3 hB0 hB1 hB2 hR;go_enter func55,ntmps55;go_upto_region 3 with(go_at_call 84;(with_reducible refine(CF.out _ HO.out HO1.out).mono ?_);rintro e w' ⟨rfl,rfl⟩)
 go_quiet((first|(go_at_call 87;with_reducible exact D8 (CC.out _))|(go_at_call 88;with_reducible exact D8 (CT.out _))))
 have HN:=hid (Dr.below (w:=W1) ⟨nq,rfl⟩ w.heap.size);have y0:(W1.drewN nq).cell? ⟨w.heap.size,0,none⟩=some (.int .i64 (o)):=by rw[←x0];simp
 have y1:(W1.drewN nq).cell? ⟨w.heap.size,1,none⟩=some (.int .i64 (d)):=by rw[←x1];simp
 have y2:(W1.drewN nq).cell? ⟨w.heap.size,2,none⟩=some (.int .i64 (0)):=by rw[←x2];simp
 have y3:(W1.drewN nq).cell? ⟨w.heap.size,3,none⟩=some (.int .i64 (0)):=by rw[←x3];simp
 have y4:(W1.drewN nq).cell? ⟨w.heap.size,4,none⟩=some (.int .i64 (i)):=by rw[←x4];simp
 generalize W1.drewN nq=wq at*
 go_upto_region 20 with fail
 go_quiet((first|(go_at_call 87;with_reducible exact D8 (CC.out _))|(go_at_call 90;with_reducible exact Calls.quiet_of (CB0.out _))|(go_at_call 90;with_reducible exact Calls.quiet_of (CB1.out _))|(go_at_call 90;with_reducible exact Calls.quiet_of (CB2.out _))|(go_at_call 90;with_reducible exact Calls.quiet_of (CB3.out _))|(go_at_call 90;trace_state;fail)))
 have HN2:=hid (Dr.below (w:=wq) ⟨nq,rfl⟩ w.heap.size);go_wp2_with fail
 go_ret;exact⟨E9 HE.out,(HBB.out.trans HN.out).trans HN2.out⟩
set_option maxHeartbeats 4000000 in
theorem A5M(o d a b i:Int)(w:World)(o0:38≤o)(o1:o≤38)(d0:0≤d)(d1:d<32)(a0:0≤a)(a1:a<32)(b0:0≤b)(b1:b<32)(hi: -2048≤i∧i≤2047)(zb:b=0):Calls prog 55 #[RvV ⟨o,d,a,b,i⟩] w fun e w'=>e= .returned (.int .u32 (G9 ⟨o,d,a,b,i⟩))∧Below w.heap.size w w':=by
 subst zb;show Calls prog 55 #[.agg #[.int .i64 o,.int .i64 d,.int .i64 a,.int .i64 0,.int .i64 i]] w _
 obtain⟨W1,hW1⟩:∃W,w.alloc (.cells #[.int .i64 o,.int .i64 d,.int .i64 a,.int .i64 0,.int .i64 i] 75)=W:=⟨_,rfl⟩
 have BB:Hid (Below w.heap.size w W1):=by rw[←hW1];exact(Below.refl _ _).alloc (Nat.le_refl _) _
 have x0:W1.cell? ⟨w.heap.size,0,none⟩=some (.int .i64 (o)):=by rw[←hW1];simp[go_sem]
 have x1:W1.cell? ⟨w.heap.size,1,none⟩=some (.int .i64 (d)):=by rw[←hW1];simp[go_sem]
 have x2:W1.cell? ⟨w.heap.size,2,none⟩=some (.int .i64 (a)):=by rw[←hW1];simp[go_sem]
 have x3:W1.cell? ⟨w.heap.size,3,none⟩=some (.int .i64 (0)):=by rw[←hW1];simp[go_sem]
 have x4:W1.cell? ⟨w.heap.size,4,none⟩=some (.int .i64 (i)):=by rw[←hW1];simp[go_sem]
 have CF:=hid (A0v o);have CC:Hid (∀w,Calls prog 87 #[.int .i64 8] w fun e w'=>e= .returned (.int .u32 103)∧w=w'):=hid (I4 8 (by decide));have CT:=hid (fun w=>I6 o w (by omega) (by omega));obtain⟨⟨t0,t1⟩,hsv,-⟩:=J2 (o:=o) (by omega) (by omega);obtain⟨t,ht⟩:∃t,thR o=t:=⟨_,rfl⟩
 rw[ht]at CT t0 t1;have CS:=hid (G6 o);obtain⟨s,hs⟩:∃s,svR o=s:=⟨_,rfl⟩
 rw[hs]at CS hsv;have s0:0≤s∧s≤32:=by omega
 obtain⟨A1,hA1⟩:∃x,(103:Int)+(d*128)=x:=⟨_,rfl⟩
 have r1:bits .or .u32 103 (d*128)=A1:=by rw[←hA1];exact C8 7 rfl (by omega) (by omega) (by omega) (by omega)
 obtain⟨A2,hA2⟩:∃x,(A1:Int)+(t*4096)=x:=⟨_,rfl⟩
 have r2:bits .or .u32 A1 (t*4096)=A2:=by rw[←hA2];exact C8 12 rfl (by omega) (by omega) (by omega) (by omega)
 obtain⟨A3,hA3⟩:∃x,(A2:Int)+(a*32768)=x:=⟨_,rfl⟩
 have r3:bits .or .u32 A2 (a*32768)=A3:=by rw[←hA3];exact C8 15 rfl (by omega) (by omega) (by omega) (by omega)
 obtain⟨A4,hA4⟩:∃x,(A3:Int)+0=x:=⟨_,rfl⟩
 have r4:bits .or .u32 A3 0=A4:=by rw[←hA4,Int.add_zero];exact L3 (by omega) (by omega)
 have hm:i%4294967296*1048576%4294967296=i%4096*1048576:=by omega
 obtain⟨y,hy⟩:∃y,i%4096=y:=⟨_,rfl⟩
 rw[hy]at hm;obtain⟨R,hR⟩:∃x,A4+y*1048576=x:=⟨_,rfl⟩
 have r5:bits .or .u32 A4 (y*1048576)=R:=by rw[←hR];exact C8 20 rfl (by omega) (by omega) (by omega) (by omega)
 have HE:Hid (R=G9 ⟨o,d,a,0,i⟩):=hid (by
  have e:fmR o=8:=A9e (by omega) (by omega);unfold G9;simp only[e];show R=asm 103 d (thR o) a (i%32) (i / 32%128)
  unfold asm;omega)
 have HBB:=hid BB.out;have HO:=hid o0;have HO1:=hid o1;clear hA1 hA2 hA3 hA4 ht hs hsv hR hy;exact A7Q
theorem A8m{p:Prop}(h:p:=by
 go_enter func55,ntmps55;go_wp2_with(go_at_call 84;(with_reducible refine(C1.out _).mono ?_);rintro e w' ⟨rfl,rfl⟩)
 clear hW1;go_quiet(first|(go_at_call 87;with_reducible exact D8 (C2.out _))|(go_at_call 88;with_reducible exact D8 (C3.out _)))
 go_wp2_with fail
 go_ret;exact⟨rfl,B8 BB.out _⟩
 ):p:=h
theorem A0Z(o:Int)(h:37≤o)(w:World):Calls prog 88 #[.int .i64 o] w fun e w'=>e= .returned (.int .u32 0)∧w=w':=by
 have g:decide (37≤o)=true:=by simp;omega
 clear h;go_enter func88,ntmps88;go_wp2_with fail
 go_ret;exact⟨rfl,rfl⟩
set_option maxHeartbeats 2000000 in
theorem A2I(w:World):Calls prog 55 #[.agg #[.int .i64 39,.int .i64 0,.int .i64 0,.int .i64 0,.int .i64 0]] w fun e w'=>e= .returned (.int .u32 115)∧Below w.heap.size w w':=by
 have C1:Hid (∀w,Calls prog 84 #[.int .i64 39] w fun e w'=>e= .returned (.int .i64 9)∧w=w'):=hid (fun w=>U4 39 w);have C2:Hid (∀w,Calls prog 87 #[.int .i64 9] w fun e w'=>e= .returned (.int .u32 115)∧w=w'):=hid (I4 9 (by decide));have C3:=hid (A0Z 39 (by decide));obtain⟨W1,hW1⟩:∃W,w.alloc (.cells #[.int .i64 39,.int .i64 0,.int .i64 0,.int .i64 0,.int .i64 0] 75)=W:=⟨_,rfl⟩
 have BB:Hid (Below w.heap.size w W1):=by rw[←hW1];exact(Below.refl _ _).alloc (Nat.le_refl _) _
 have x0:W1.cell? ⟨w.heap.size,0,none⟩=some (.int .i64 39):=by rw[←hW1];simp[go_sem]
 have x1:W1.cell? ⟨w.heap.size,1,none⟩=some (.int .i64 0):=by rw[←hW1];simp[go_sem]
 have x2:W1.cell? ⟨w.heap.size,2,none⟩=some (.int .i64 0):=by rw[←hW1];simp[go_sem]
 have x3:W1.cell? ⟨w.heap.size,3,none⟩=some (.int .i64 0):=by rw[←hW1];simp[go_sem]
 have x4:W1.cell? ⟨w.heap.size,4,none⟩=some (.int .i64 0):=by rw[←hW1];simp[go_sem]
 exact A8m
set_option maxHeartbeats 2000000 in
theorem A2H(w:World):Calls prog 55 #[.agg #[.int .i64 40,.int .i64 0,.int .i64 0,.int .i64 0,.int .i64 0]] w fun e w'=>e= .returned (.int .u32 1048691)∧Below w.heap.size w w':=by
 have C1:Hid (∀w,Calls prog 84 #[.int .i64 40] w fun e w'=>e= .returned (.int .i64 9)∧w=w'):=hid (fun w=>U4 40 w);have C2:Hid (∀w,Calls prog 87 #[.int .i64 9] w fun e w'=>e= .returned (.int .u32 115)∧w=w'):=hid (I4 9 (by decide));have C3:=hid (A0Z 40 (by decide));obtain⟨W1,hW1⟩:∃W,w.alloc (.cells #[.int .i64 40,.int .i64 0,.int .i64 0,.int .i64 0,.int .i64 0] 75)=W:=⟨_,rfl⟩
 have BB:Hid (Below w.heap.size w W1):=by rw[←hW1];exact(Below.refl _ _).alloc (Nat.le_refl _) _
 have x0:W1.cell? ⟨w.heap.size,0,none⟩=some (.int .i64 40):=by rw[←hW1];simp[go_sem]
 have x1:W1.cell? ⟨w.heap.size,1,none⟩=some (.int .i64 0):=by rw[←hW1];simp[go_sem]
 have x2:W1.cell? ⟨w.heap.size,2,none⟩=some (.int .i64 0):=by rw[←hW1];simp[go_sem]
 have x3:W1.cell? ⟨w.heap.size,3,none⟩=some (.int .i64 0):=by rw[←hW1];simp[go_sem]
 have x4:W1.cell? ⟨w.heap.size,4,none⟩=some (.int .i64 0):=by rw[←hW1];simp[go_sem]
 exact A8m
theorem A2J(x:Rv)(h:okR x=true)(w:World):Calls prog 55 #[RvV x] w fun e w'=>e= .returned (.int .u32 (G9 x))∧Below w.heap.size w w':=by
 obtain⟨o,d,a,b,i⟩:=x;have ho:=A4m h;unfold okR at h;simp only[Bool.and_eq_true]at h;obtain⟨hd,ha,hb,-,hi⟩:=h;obtain⟨⟨d0,d1⟩,dz⟩:=p8 hd;obtain⟨⟨a0,a1⟩,az⟩:=p8 ha;obtain⟨⟨b0,b1⟩,bz⟩:=p8 hb;clear hd ha hb;simp only at ho d0 d1 a0 a1 b0 b1 dz az bz hi;rcases G7 o ho.1 ho.2 with⟨f,r⟩|⟨f,r⟩|⟨f,r⟩|⟨f,r⟩|⟨f,r⟩|⟨f,r⟩|⟨f,r⟩|⟨f,r⟩|⟨f,r⟩|⟨f,r⟩
 ·rw[f]at hi;unfold fiR at hi;simp only[reduceCtorEq,Int.reduceEq,or_self,or_false,false_or,or_true,true_or,if_true,if_false,Bool.and_eq_true,decide_eq_true_eq,beq_iff_eq]at hi;exact A5U o d a b i w (by omega) (by omega) d0 d1 a0 a1 b0 b1 (by omega)
 ·rw[f]at hi bz;unfold fiR at hi;simp only[reduceCtorEq,Int.reduceEq,or_self,or_false,false_or,or_true,true_or,if_true,if_false,Bool.and_eq_true,decide_eq_true_eq,beq_iff_eq]at hi;exact A5T o d a b i w (by omega) (by omega) d0 d1 a0 a1 b0 b1 (by omega) (bz rfl)
 ·rw[f]at hi bz;unfold fiR at hi;simp only[reduceCtorEq,Int.reduceEq,or_self,or_false,false_or,or_true,true_or,if_true,if_false,Bool.and_eq_true,decide_eq_true_eq,beq_iff_eq]at hi;exact A5S o d a b i w (by omega) (by omega) d0 d1 a0 a1 b0 b1 (by omega) (bz rfl)
 ·rw[f]at hi az bz;unfold fiR at hi;simp only[reduceCtorEq,Int.reduceEq,or_self,or_false,false_or,or_true,true_or,if_true,if_false,Bool.and_eq_true,decide_eq_true_eq,beq_iff_eq]at hi;exact A5R o d a b i w (by omega) (by omega) d0 d1 a0 a1 b0 b1 (by omega) (az rfl) (bz rfl)
 ·rw[f]at hi bz;unfold fiR at hi;simp only[reduceCtorEq,Int.reduceEq,or_self,or_false,false_or,or_true,true_or,if_true,if_false,Bool.and_eq_true,decide_eq_true_eq,beq_iff_eq]at hi;exact A5Q o d a b i w (by omega) (by omega) d0 d1 a0 a1 b0 b1 (by omega) (bz rfl)
 ·rw[f]at hi dz;unfold fiR at hi;simp only[reduceCtorEq,Int.reduceEq,or_self,or_false,false_or,or_true,true_or,if_true,if_false,Bool.and_eq_true,decide_eq_true_eq,beq_iff_eq]at hi;exact A5P o d a b i w (by omega) (by omega) d0 d1 a0 a1 b0 b1 (by omega) (dz rfl)
 ·rw[f]at hi dz;unfold fiR at hi;simp only[reduceCtorEq,Int.reduceEq,or_self,or_false,false_or,or_true,true_or,if_true,if_false,Bool.and_eq_true,decide_eq_true_eq,beq_iff_eq]at hi;exact A5O o d a b i w (by omega) (by omega) d0 d1 a0 a1 b0 b1 (by omega) (dz rfl)
 ·rw[f]at hi az bz;unfold fiR at hi;simp only[reduceCtorEq,Int.reduceEq,or_self,or_false,false_or,or_true,true_or,if_true,if_false,Bool.and_eq_true,decide_eq_true_eq,beq_iff_eq]at hi;exact A5N o d a b i w (by omega) (by omega) d0 d1 a0 a1 b0 b1 (by omega) (az rfl) (bz rfl)
 ·rw[f]at hi bz;unfold fiR at hi;simp only[reduceCtorEq,Int.reduceEq,or_self,or_false,false_or,or_true,true_or,if_true,if_false,Bool.and_eq_true,decide_eq_true_eq,beq_iff_eq]at hi;exact A5M o d a b i w (by omega) (by omega) d0 d1 a0 a1 b0 b1 (by omega) (bz rfl)
 ·rw[f]at hi dz az bz;unfold fiR at hi;simp only[reduceCtorEq,Int.reduceEq,or_self,or_false,false_or,or_true,true_or,if_true,if_false,Bool.and_eq_true,decide_eq_true_eq,beq_iff_eq]at hi;obtain rfl:=dz rfl;obtain rfl:=az rfl;obtain rfl:=bz rfl;subst hi;have e:o=39∨o=40:=by omega
  rcases e with rfl|rfl
  ·exact A2I w
  ·exact A2H w
end Go.Proofs.YtajljbmeaeeknaaGreat
