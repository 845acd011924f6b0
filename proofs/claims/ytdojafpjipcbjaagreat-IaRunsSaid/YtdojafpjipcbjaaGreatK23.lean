/- -/
import Derived.Test.YtdojafpjipcbjaaGreatK1
import Derived.Test.YtdojafpjipcbjaaGreatK22
open Go.Proofs.Tryz
open Go.Lib (hid)
set_option maxHeartbeats 1000000
set_option maxRecDepth 100000
namespace Go.Proofs.YtdojafpjipcbjaaGreat
open Go.RowKit
set_option linter.unusedVariables false
set_option linter.unusedSimpArgs false
theorem A8o{p:Prop}(h:p:=by
 go_enter func90,ntmps90;go_wp2_with((with_reducible first|refine(C1.out _).mono ?_|refine(C2.out _).mono ?_|refine(C5.out _ _ _).mono ?_);rintro e wk ⟨rfl,rfl⟩)
 ):p:=h
def btw(n z:Int):Bool:=decide (-(pwZ z / 2)≤n)&&decide (n≤pwZ z / 2-1)
theorem A9X{a b z:Int}(hz:z=16∨z=32)(a0:0≤a)(a1:a<pwZ z)(b0:0≤b)(b1:b<pwZ z):flR (adN a b z) z (decide (pwZ z≤a+b)) (!btw (sgB a z+sgB b z) z)=rsF (adN a b z) z (adO a b z):=by
 have n0:0≤adN a b z:=Int.emod_nonneg _ (by rcases hz with rfl|rfl<;>decide);have n1:adN a b z<pwZ z:=Int.emod_lt_of_pos _ (by rcases hz with rfl|rfl<;>decide);unfold rsF adO;rw[M5 hz a0 a1,M5 hz b0 b1,M5 hz n0 n1,Int.emod_eq_of_lt n0 n1];unfold flR btw;simp only[Bool.not_eq_true',Bool.and_eq_false_iff,decide_eq_true_eq,decide_eq_false_iff_not,decide_eq_decide,ne_eq];rcases hz with rfl|rfl
 ·have e:pwZ 16=65536:=rfl;have es:∀n,sgB n 16=if 32768≤n then n-65536 else n:=fun n=>rfl
  have ea:adN a b 16=(a+b)%65536:=rfl;simp only[e,es]at*
  rw[ea]at*
  repeat' split
  all_goals omega
 ·have e:pwZ 32=4294967296:=rfl;have es:∀n,sgB n 32=if 2147483648≤n then n-4294967296 else n:=fun n=>rfl
  have ea:adN a b 32=(a+b)%4294967296:=rfl;simp only[e,es]at*
  rw[ea]at*
  repeat' split
  all_goals omega
theorem A9W{a b z:Int}(hz:z=16∨z=32)(a0:0≤a)(a1:a<pwZ z)(b0:0≤b)(b1:b<pwZ z):flR (suN a b z) z (decide (a<b)) (!btw (sgB a z-sgB b z) z)=rsF (suN a b z) z (suO a b z):=by
 have n0:0≤suN a b z:=Int.emod_nonneg _ (by rcases hz with rfl|rfl<;>decide);have n1:suN a b z<pwZ z:=Int.emod_lt_of_pos _ (by rcases hz with rfl|rfl<;>decide);unfold rsF suO;rw[M5 hz a0 a1,M5 hz b0 b1,M5 hz n0 n1,Int.emod_eq_of_lt n0 n1];unfold flR btw;simp only[Bool.not_eq_true',Bool.and_eq_false_iff,decide_eq_true_eq,decide_eq_false_iff_not,decide_eq_decide,ne_eq];rcases hz with rfl|rfl
 ·have e:pwZ 16=65536:=rfl;have es:∀n,sgB n 16=if 32768≤n then n-65536 else n:=fun n=>rfl
  have ea:suN a b 16=(a-b)%65536:=rfl;simp only[e,es]at*
  rw[ea]at*
  repeat' split
  all_goals omega
 ·have e:pwZ 32=4294967296:=rfl;have es:∀n,sgB n 32=if 2147483648≤n then n-4294967296 else n:=fun n=>rfl
  have ea:suN a b 32=(a-b)%4294967296:=rfl;simp only[e,es]at*
  rw[ea]at*
  repeat' split
  all_goals omega
theorem A0J{n z:Int}(hz:z=16∨z=32)(n0:0≤n)(n1:n<pwZ z):flR n z false false=rsF n z 0:=by
 unfold rsF;rw[M5 hz n0 n1,Int.emod_eq_of_lt n0 n1];unfold flR;simp only[decide_eq_true_eq,Bool.false_eq_true,if_false];rcases hz with rfl|rfl
 ·have e:pwZ 16=65536:=rfl;have es:∀n,sgB n 16=if 32768≤n then n-65536 else n:=fun n=>rfl
  simp only[e,es]at*
  repeat' split
  all_goals omega
 ·have e:pwZ 32=4294967296:=rfl;have es:∀n,sgB n 32=if 2147483648≤n then n-4294967296 else n:=fun n=>rfl
  simp only[e,es]at*
  repeat' split
  all_goals omega
theorem A6L{a b:Int}(a0:0≤a)(a1:a<4294967296)(b0:0≤b)(b1:b<4294967296):bits .or .i64 a b=orW a b:=by
 obtain⟨A,rfl⟩:=Int.eq_ofNat_of_zero_le a0;obtain⟨B,rfl⟩:=Int.eq_ofNat_of_zero_le b0;have hx:=Nat.or_lt_two_pow (x:=A) (y:=B) (n:=32) (by omega) (by omega);show IntKind.i64.wrap ((BitVec.ofInt 64 (A:Int)|||BitVec.ofInt 64 (B:Int)).toNat:Int)=_
 rw[BitVec.toNat_or,ofInt_u64 A (by omega),ofInt_u64 B (by omega),IntKind.wrap_i64];unfold orW;simp only[Int.toNat_natCast];omega
theorem A6K{a b:Int}(a0:0≤a)(a1:a<4294967296)(b0:0≤b)(b1:b<4294967296):bits .xor .i64 a b=xoW a b:=by
 obtain⟨A,rfl⟩:=Int.eq_ofNat_of_zero_le a0;obtain⟨B,rfl⟩:=Int.eq_ofNat_of_zero_le b0;have hx:=Nat.xor_lt_two_pow (x:=A) (y:=B) (n:=32) (by omega) (by omega);show IntKind.i64.wrap ((BitVec.ofInt 64 (A:Int)^^^BitVec.ofInt 64 (B:Int)).toNat:Int)=_
 rw[BitVec.toNat_xor,ofInt_u64 A (by omega),ofInt_u64 B (by omega),IntKind.wrap_i64];unfold xoW;simp only[Int.toNat_natCast];omega
theorem A6N{a b:Int}(a0:0≤a)(a1:a<4294967296)(b0:0≤b)(b1:b<4294967296):bits .and .i64 a b=anW a b:=by
 obtain⟨A,rfl⟩:=Int.eq_ofNat_of_zero_le a0;obtain⟨B,rfl⟩:=Int.eq_ofNat_of_zero_le b0;have hx:=Nat.and_lt_two_pow (x:=A) (y:=B) (n:=32) (by omega);show IntKind.i64.wrap ((BitVec.ofInt 64 (A:Int)&&&BitVec.ofInt 64 (B:Int)).toNat:Int)=_
 rw[BitVec.toNat_and,ofInt_u64 A (by omega),ofInt_u64 B (by omega),IntKind.wrap_i64];unfold anW;simp only[Int.toNat_natCast];omega
theorem y8{a b z:Int}(hz:z=16∨z=32)(a0:0≤a)(a1:a<pwZ z)(b0:0≤b)(b1:b<pwZ z):orW a b<pwZ z∧xoW a b<pwZ z∧anW a b<pwZ z:=by
 unfold orW xoW anW;rcases hz with rfl|rfl
 ·have e:pwZ 16=65536:=rfl;rw[e]at a1 b1⊢;have h1:=Nat.or_lt_two_pow (x:=a.toNat) (y:=b.toNat) (n:=16) (by omega) (by omega);have h2:=Nat.xor_lt_two_pow (x:=a.toNat) (y:=b.toNat) (n:=16) (by omega) (by omega);have h3:=Nat.and_lt_two_pow (x:=a.toNat) (y:=b.toNat) (n:=16) (by omega);omega
 ·have e:pwZ 32=4294967296:=rfl;rw[e]at a1 b1⊢;have h1:=Nat.or_lt_two_pow (x:=a.toNat) (y:=b.toNat) (n:=32) (by omega) (by omega);have h2:=Nat.xor_lt_two_pow (x:=a.toNat) (y:=b.toNat) (n:=32) (by omega) (by omega);have h3:=Nat.and_lt_two_pow (x:=a.toNat) (y:=b.toNat) (n:=32) (by omega);omega
theorem A2G(n:Int)(w:World):Calls prog 115 #[.int .i64 n,.int .i64 16] w fun e w'=>e= .returned (.bool (decide (-32768≤n)&&decide (n≤32767)))∧w=w':=by
 cases h1:decide (-32768≤n)
 all_goals
  exact A4W
theorem A2m(n z:Int)(w:World)(hz:z=16∨z=32):Calls prog 115 #[.int .i64 n,.int .i64 z] w fun e w'=>e= .returned (.bool (btw n z))∧w=w':=by
 rcases hz with rfl|rfl
 ·exact A2G n w
 ·exact F7 n w
theorem P3{n z:Int}(hz:z=16∨z=32)(h0:0≤n)(h1:n<pwZ z): -2147483648≤sgB n z∧sgB n z≤2147483647:=by
 rcases hz with rfl|rfl
 ·have e:pwZ 16=65536:=rfl;have es:∀n,sgB n 16=if 32768≤n then n-65536 else n:=fun n=>rfl
  rw[es];rw[e]at h1;split<;>omega
 ·have e:pwZ 32=4294967296:=rfl;have es:∀n,sgB n 32=if 2147483648≤n then n-4294967296 else n:=fun n=>rfl
  rw[es];rw[e]at h1;split<;>omega
theorem N0{z:Int}(hz:z=16∨z=32):0<pwZ z∧pwZ z≤4294967296:=by rcases hz with rfl|rfl<;>decide
theorem A3q(op a b z:Int)(w:World)(hop:op=7∨op=14)(hz:z=16∨z=32)(a0:0≤a)(a1:a<pwZ z)(b0:0≤b)(b1:b<pwZ z):Calls prog 90 #[.int .i64 op,.int .i64 a,.int .i64 b,.int .i64 z] w fun e w'=>e= .returned (.tuple #[.int .i64 (adN a b z),.int .i64 (rsF (adN a b z) z (adO a b z))])∧w=w':=by
 have hp:=N0 hz;have C1:=hid (fun wk=>E3 a z wk (by unfold I64;omega) (by omega) (by omega));have C2:=hid (fun wk=>E3 b z wk (by unfold I64;omega) (by omega) (by omega));have s1:=P3 hz a0 a1;have s2:=P3 hz b0 b1;have n0:0≤adN a b z:=Int.emod_nonneg _ (by omega);have n1:adN a b z<pwZ z:=Int.emod_lt_of_pos _ (by omega);have C3:=hid (fun wk=>show Calls _ _ _ wk (fun e w'=>e= .returned (.int .i64 (adN a b z))∧wk=w')from R1 (a+b) z wk hz (by omega));have C4:=hid (fun n wk=>A2m n z wk hz);have C5:=hid (fun ca ov wk=>L0 (adN a b z) z ca ov wk hz n0 (by omega));rw[←A9X hz a0 a1 b0 b1];generalize adN a b z=n at*
 have hp2:a+b<8589934592:=by omega
 generalize hx:sgB a z=x at*
 generalize hy:sgB b z=y at*
 clear hx hy;rcases hz with rfl|rfl
 all_goals
  first
  |(have e:pwZ 16=65536:=rfl;rw[e]at a1 b1 n1⊢;clear e)
  |(have e:pwZ 32=4294967296:=rfl;rw[e]at a1 b1 n1⊢;clear e)
  rcases hop with rfl|rfl
 all_goals
  go_enter func90,ntmps90;go_wp2_with((with_reducible first|refine(C1.out _).mono ?_|refine(C2.out _).mono ?_|refine(C3.out _).mono ?_|refine(C4.out _ _).mono ?_|refine(C5.out _ _ _).mono ?_);rintro e wk ⟨rfl,rfl⟩)
 all_goals go_ret2
 all_goals exact⟨rfl,rfl⟩
theorem s6(op a b z:Int)(w:World)(hop:op=10∨op=17∨op=12∨op=19∨op=25)(hz:z=16∨z=32)(a0:0≤a)(a1:a<pwZ z)(b0:0≤b)(b1:b<pwZ z):Calls prog 90 #[.int .i64 op,.int .i64 a,.int .i64 b,.int .i64 z] w fun e w'=>e= .returned (.tuple #[.int .i64 (suN a b z),.int .i64 (rsF (suN a b z) z (suO a b z))])∧w=w':=by
 have hp:=N0 hz;have C1:=hid (fun wk=>E3 a z wk (by unfold I64;omega) (by omega) (by omega));have C2:=hid (fun wk=>E3 b z wk (by unfold I64;omega) (by omega) (by omega));have s1:=P3 hz a0 a1;have s2:=P3 hz b0 b1;have n0:0≤suN a b z:=Int.emod_nonneg _ (by omega);have n1:suN a b z<pwZ z:=Int.emod_lt_of_pos _ (by omega);have C3:=hid (fun wk=>show Calls _ _ _ wk (fun e w'=>e= .returned (.int .i64 (suN a b z))∧wk=w')from R1 (a-b) z wk hz (by omega));have C4:=hid (fun n wk=>A2m n z wk hz);have C5:=hid (fun ca ov wk=>L0 (suN a b z) z ca ov wk hz n0 (by omega));rw[←A9W hz a0 a1 b0 b1];generalize suN a b z=n at*
 generalize hx:sgB a z=x at*
 generalize hy:sgB b z=y at*
 have a2:a<4294967296:=by omega
 have b2:b<4294967296:=by omega
 clear hx hy hz a1 b1 n1 hp;rcases hop with rfl|rfl|rfl|rfl|rfl
 all_goals
  go_enter func90,ntmps90;go_wp2_with((with_reducible first|refine(C1.out _).mono ?_|refine(C2.out _).mono ?_|refine(C3.out _).mono ?_|refine(C4.out _ _).mono ?_|refine(C5.out _ _ _).mono ?_);rintro e wk ⟨rfl,rfl⟩)
 all_goals go_ret2
 all_goals exact⟨rfl,rfl⟩
theorem A5H(op a b z:Int)(w:World)(hop:op=8∨op=15)(hz:z=16∨z=32)(a0:0≤a)(a1:a<pwZ z)(b0:0≤b)(b1:b<pwZ z):Calls prog 90 #[.int .i64 op,.int .i64 a,.int .i64 b,.int .i64 z] w fun e w'=>e= .returned (.tuple #[.int .i64 (orW a b),.int .i64 (rsF (orW a b) z (0))])∧w=w':=by
 have hp:=N0 hz;have C1:=hid (fun wk=>E3 a z wk (by unfold I64;omega) (by omega) (by omega));have C2:=hid (fun wk=>E3 b z wk (by unfold I64;omega) (by omega) (by omega));have s1:=P3 hz a0 a1;have s2:=P3 hz b0 b1;have n1:=(y8 hz a0 a1 b0 b1).1;have n0:=(y5 a0 (show a<4294967296 by omega) b0 (show b<4294967296 by omega)).1;have hv:bits .or .i64 a b=orW a b:=A6L a0 (by omega) b0 (by omega);have C5:=hid (fun ca ov wk=>L0 (orW a b) z ca ov wk hz n0 (by omega));rw[←A0J hz n0 n1];generalize orW a b=n at*
 generalize hx:sgB a z=x at*
 generalize hy:sgB b z=y at*
 clear hx hy hz a1 b1 n1 hp;rcases hop with rfl|rfl
 all_goals
  go_enter func90,ntmps90;go_wp2_with((with_reducible first|refine(C1.out _).mono ?_|refine(C2.out _).mono ?_|refine(C5.out _ _ _).mono ?_);rintro e wk ⟨rfl,rfl⟩)
 all_goals go_ret2
 all_goals exact⟨rfl,rfl⟩
theorem A3o(op a b z:Int)(w:World)(hop:op=11∨op=18)(hz:z=16∨z=32)(a0:0≤a)(a1:a<pwZ z)(b0:0≤b)(b1:b<pwZ z):Calls prog 90 #[.int .i64 op,.int .i64 a,.int .i64 b,.int .i64 z] w fun e w'=>e= .returned (.tuple #[.int .i64 (xoW a b),.int .i64 (rsF (xoW a b) z (0))])∧w=w':=by
 have hp:=N0 hz;have C1:=hid (fun wk=>E3 a z wk (by unfold I64;omega) (by omega) (by omega));have C2:=hid (fun wk=>E3 b z wk (by unfold I64;omega) (by omega) (by omega));have s1:=P3 hz a0 a1;have s2:=P3 hz b0 b1;have n1:=(y8 hz a0 a1 b0 b1).2.1;have n0:=(t8 a0 (show a<4294967296 by omega) b0 (show b<4294967296 by omega)).1;have hv:bits .xor .i64 a b=xoW a b:=A6K a0 (by omega) b0 (by omega);have C5:=hid (fun ca ov wk=>L0 (xoW a b) z ca ov wk hz n0 (by omega));rw[←A0J hz n0 n1];generalize xoW a b=n at*
 generalize hx:sgB a z=x at*
 generalize hy:sgB b z=y at*
 clear hx hy hz a1 b1 n1 hp;rcases hop with rfl|rfl
 all_goals
  go_enter func90,ntmps90;go_wp2_with((with_reducible first|refine(C1.out _).mono ?_|refine(C2.out _).mono ?_|refine(C5.out _ _ _).mono ?_);rintro e wk ⟨rfl,rfl⟩)
 all_goals go_ret2
 all_goals exact⟨rfl,rfl⟩
theorem A3p(op a b z:Int)(w:World)(hop:op=9∨op=16∨op=13)(hz:z=16∨z=32)(a0:0≤a)(a1:a<pwZ z)(b0:0≤b)(b1:b<pwZ z):Calls prog 90 #[.int .i64 op,.int .i64 a,.int .i64 b,.int .i64 z] w fun e w'=>e= .returned (.tuple #[.int .i64 (anW a b),.int .i64 (rsF (anW a b) z (0))])∧w=w':=by
 have hp:=N0 hz;have C1:=hid (fun wk=>E3 a z wk (by unfold I64;omega) (by omega) (by omega));have C2:=hid (fun wk=>E3 b z wk (by unfold I64;omega) (by omega) (by omega));have s1:=P3 hz a0 a1;have s2:=P3 hz b0 b1;have n1:=(y8 hz a0 a1 b0 b1).2.2;have n0:=(l9 a0 (show a<4294967296 by omega) b0 (show b<4294967296 by omega)).1;have hv:bits .and .i64 a b=anW a b:=A6N a0 (by omega) b0 (by omega);have C5:=hid (fun ca ov wk=>L0 (anW a b) z ca ov wk hz n0 (by omega));rw[←A0J hz n0 n1];generalize anW a b=n at*
 generalize hx:sgB a z=x at*
 generalize hy:sgB b z=y at*
 clear hx hy hz a1 b1 n1 hp;rcases hop with rfl|rfl|rfl
 all_goals
  go_enter func90,ntmps90;go_wp2_with((with_reducible first|refine(C1.out _).mono ?_|refine(C2.out _).mono ?_|refine(C5.out _ _ _).mono ?_);rintro e wk ⟨rfl,rfl⟩)
 all_goals go_ret2
 all_goals exact⟨rfl,rfl⟩
theorem A9B{p:Prop}(h:p:=by
 go_enter func91,ntmps91;go_upto_region 9 with((with_reducible refine(CB.out _).mono ?_);rintro e wk ⟨rfl,rfl⟩)
 go_quiet(first|(go_at_call 87;with_reducible exact B8 (CP.out _))|(go_at_call 116;with_reducible exact B8 (CS.out _)))
 have HN2:=hid (HN.out.drewN nq);obtain⟨⟨x0,x1,x2,x3,x4⟩,xf⟩:=HN2.out.b.cells;have hBl:=HN2.out.b.lt;have CWQ:=hid (CWR.out nq);clear CWR CP CS CB rd fd rs r1 fc hMl;generalize W0.drewN nq=Wq at*
 go_upto_region 11 with((with_reducible refine(CWQ.out).mono ?_);rintro e w1 ⟨rfl,hm1,hc1⟩;have HM1:=hid hm1;have HC1:=hid hc1;clear hm1 hc1)
 have k32:=(HM1.out.tailAt 0 _ rfl).1;have g32:=(HM1.out.tailAt 0 _ rfl).2;have hM1:=HM1.out.ltM;go_wp2_with((with_reducible refine(CF.out _).mono ?_);rintro e wk ⟨rfl,rfl⟩)
 go_ret;exact RdP.ok rfl (HM1.out.setF fb0 fb1) ((HN2.out.ch.trans HC1.out).setM _ _)
 ):p:=h
theorem B1U{p:Prop}(h:p:=by
 go_enter func91,ntmps91;go_upto_region 13 with fail
 refine B4 18 (by kernel_rfl) (by kernel_rfl) ?_;dsimp only[List.take,List.drop]
 repeat(quiet_step ((go_at_call 87;with_reducible exact B8 (CP.out _))))
 refine wpQuiet_nil ?_;intro _ hw';obtain⟨k3,hw''⟩:=hw';subst hw'';go_wp2_with((with_reducible first|refine(CWR.out _).mono ?_|refine(CWR2.out _).mono ?_);rintro e w1 ⟨rfl,hm1,hc1⟩)
 go_ret;exact RdP.ok rfl hm1 (HN.out.ch.trans (((Ch.refl _ _ _ _).drewN _).trans hc1))
 ):p:=h
theorem A5y{p:Prop}(h:p:=by
 go_enter func91,ntmps91;go_wp2_with((with_reducible refine(CD.out).mono ?_);rintro e w1 ⟨⟨rfl,hx1⟩,hx2⟩)
 go_ret;exact RdP.from' ⟨⟨rfl,hx1⟩,hx2⟩ HN.out.ch
 ):p:=h
theorem A8k{p:Prop}(h:p:=by
 rw[if_pos hb];rw[hb]at CB;generalize c.r.getD 1 0=r1v at*
 generalize c.r.getD d 0=rdv at*
 clear hb;go_enter func91,ntmps91;go_wp2_with((with_reducible refine(CB.out _).mono ?_);rintro e wk ⟨rfl,rfl⟩)
 go_ret;exact RdP.ok rfl HN.out.m HN.out.ch
 ):p:=h
theorem R7{r n z:Int}(n0:0≤n)(n1:n<pwZ z):wrQ r n z=wrR r n z:=by unfold wrQ wrR;rw[Int.emod_eq_of_lt n0 n1]
theorem RdP.from'{base M:Nat}{mv:Value}{c:Mac}{o:Option Mac}{w W:World}{e:Ending}{w':World}(h:RdP base M mv c o W e w')(hc:Ch M M mv w W):RdP base M mv c o w e w':=⟨h.1,hc.trans h.2⟩
theorem A4t{n z:Int}{o:Bool}(hz:z=16∨z=32)(n0:0≤n)(n1:n<pwZ z):flR n z o false=rsF n z (if o=true then 1 else 0):=by
 have:=A0J hz n0 n1;unfold flR rsF at*
 simp only[Bool.false_eq_true,if_false]at this;cases o<;>simp only[Bool.false_eq_true,if_false,if_true]at* <;>omega
theorem Q7{n z o:Int}(h:o=0∨o=1∨o=8∨o=9):0≤rsF n z o∧rsF n z o≤15:=by unfold rsF;split<;>split<;>omega
theorem x8(op a by' z:Int)(w:World)(hop:op=21∨op=22∨op=23)(hz:z=16∨z=32)(h0:0≤a)(h1:a<pwZ z)(hb:0≤by'∧by'<32):Calls prog 116 #[.int .i64 op,.int .i64 a,.int .i64 by',.int .i64 z] w fun e w'=>e= .returned (.tuple #[.int .i64 (shN op z a by'.toNat).1,.bool (shN op z a by'.toNat).2])∧w=w':=by
 have e:by'=(by'.toNat:Int):=by omega
 generalize by'.toNat=k at*
 subst e;rcases hop with rfl|rfl|rfl<;>rcases hz with rfl|rfl
 ·exact x7 a k w h0 h1 (by omega)
 ·exact x6 a k w h0 h1 (by omega)
 ·exact v8 a k w h0 h1 (by omega)
 ·exact v4 a k w h0 h1 (by omega)
 ·exact u9 a k w h0 h1 (by omega)
 ·exact u7 a k w h0 h1 (by omega)
section
variable {base M : Nat} {mv : Value} {c : Mac}
theorem A9q(d s:Nat)(hd:d<32)(hs:s<32)(z i:Int)(w:World)(h:MM base M mv c w):Calls prog 91 #[.pointer (some ⟨M,0,none⟩),.agg #[.int .i64 28,.int .i64 d,.int .i64 s,.int .i64 z,.int .i64 i]] w fun e w'=>RdP base M mv c (some (A1N d s i z c)) w e w':=by
 have hnew:=RC.new h 28 (d:Int) (s:Int) z i;obtain⟨W0,hW0⟩:∃W,w.alloc (.cells #[.int .i64 28,.int .i64 (d:Int),.int .i64 (s:Int),.int .i64 z,.int .i64 i] 61)=W:=⟨_,rfl⟩
 rw[hW0]at hnew;have rd:=(hnew.m.reg hd).1;have fd:=(hnew.m.reg hd).2;have rs:=(hnew.m.reg hs).1;have r1:=(hnew.m.reg (d:=1) (by decide)).1;obtain⟨y0,y1⟩:=h.rb d;obtain⟨v0,v1⟩:=h.rb s;obtain⟨u0,u1⟩:=h.rb 1;obtain⟨g0,g1⟩:=h.fb;have fc:=(hnew.m.tailAt 0 _ rfl).1;obtain⟨⟨x0,x1,x2,x3,x4⟩,xf⟩:=hnew.b.cells;have hBl:=hnew.b.lt;have hMl:=hnew.m.ltM;have hd1:(d:Int)<32:=by omega
 have hs1:(s:Int)<32:=by omega
 have HN:=hid hnew;clear hnew;obtain⟨r0,-⟩:=HN.out.m.reg (d:=0) (by decide);obtain⟨r2,f2⟩:=HN.out.m.reg (d:=2) (by decide);have HS:=hid (fun n (n0:0≤n) (n1:n<4294967296)=>HN.out.m.setR (d:=2) (by decide) n0 n1);unfold A1N cdV;by_cases hc:2147483648≤c.r.getD 0 0
 ·have dc:decide (2147483648≤c.r.getD 0 0)=true:=decide_eq_true hc;rw[if_pos hc];have h2:((HN.out.m.setR (d:=2) (by decide) (n:=0) (by decide) (by decide)).setR (d:=2) (by decide) (n:=4294967295) (by decide) (by decide))=_:=rfl;have hm2:=((HN.out.m.setR (d:=2) (by decide) (n:=0) (by decide) (by decide)).setR (d:=2) (by decide) (n:=4294967295) (by decide) (by decide))
  have HM2:Hid (MM base M mv {c with r:=c.r.set 2 4294967295} _):=hid (by have h9:=hm2;simp only[List.set_set]at h9;exact h9);clear hm2 h2;generalize c.r.getD 0 0=r0v at*
  go_enter func91,ntmps91;go_wp2_with fail
  go_ret;exact RdP.ok rfl HM2.out ((HN.out.ch.setM _ _).setM _ _)
 ·have dc:decide (2147483648≤c.r.getD 0 0)=false:=decide_eq_false hc;rw[if_neg hc];generalize c.r.getD 0 0=r0v at*
  go_enter func91,ntmps91;go_wp2_with fail
  go_ret;exact RdP.ok rfl (HS.out 0 (by decide) (by decide)) (HN.out.ch.setM _ _)
theorem A9o(d s:Nat)(hd:d<32)(hs:s<32)(z i:Int)(w:World)(h:MM base M mv c w):Calls prog 91 #[.pointer (some ⟨M,0,none⟩),.agg #[.int .i64 30,.int .i64 d,.int .i64 s,.int .i64 z,.int .i64 i]] w fun e w'=>RdP base M mv c (some (A1M d s i z c)) w e w':=by
 have hnew:=RC.new h 30 (d:Int) (s:Int) z i;obtain⟨W0,hW0⟩:∃W,w.alloc (.cells #[.int .i64 30,.int .i64 (d:Int),.int .i64 (s:Int),.int .i64 z,.int .i64 i] 61)=W:=⟨_,rfl⟩
 rw[hW0]at hnew;have rd:=(hnew.m.reg hd).1;have fd:=(hnew.m.reg hd).2;have rs:=(hnew.m.reg hs).1;have r1:=(hnew.m.reg (d:=1) (by decide)).1;obtain⟨y0,y1⟩:=h.rb d;obtain⟨v0,v1⟩:=h.rb s;obtain⟨u0,u1⟩:=h.rb 1;obtain⟨g0,g1⟩:=h.fb;have fc:=(hnew.m.tailAt 0 _ rfl).1;obtain⟨⟨x0,x1,x2,x3,x4⟩,xf⟩:=hnew.b.cells;have hBl:=hnew.b.lt;have hMl:=hnew.m.ltM;have hd1:(d:Int)<32:=by omega
 have hs1:(s:Int)<32:=by omega
 have HN:=hid hnew;clear hnew;have CP:=hid (fun wk=>show Calls _ _ _ wk (fun e w'=>e= .returned (.int .i64 (c.r.getD s 0%256))∧wk=w')from F9 (c.r.getD s 0) 8 wk (by decide) v0 v1);have hv:0≤c.r.getD s 0%256∧c.r.getD s 0%256<256:=by omega
 have HS:=hid (fun wk (hk:RC base M mv w.heap.size 30 (d:Int) (s:Int) z i w c wk)=>RdP.ok (c:=c) (e:=.returned (.bool true)) rfl (hk.m.setR hd hv.1 (show _<4294967296 by omega)) (hk.ch.setM _ _));unfold A1M;obtain⟨p0,p1⟩:=hv;generalize c.r.getD s 0%256=p at*
 generalize c.r.getD s 0=rsv at*
 generalize c.r.getD d 0=rdv at*
 go_enter func91,ntmps91;go_upto_region 31 with fail
 refine B4 15 (by kernel_rfl) (by kernel_rfl) ?_;dsimp only[List.take,List.drop]
 repeat(quiet_step ((go_at_call 87;with_reducible exact B8 (CP.out _))))
 refine wpQuiet_nil ?_;intro _ hw';obtain⟨k3,hw''⟩:=hw';subst hw'';go_wp2_with fail
 go_ret;exact HS.out _ (HN.out.drewN _)
theorem A3u(d s:Nat)(hd:d<32)(hs:s<32)(z i:Int)(w:World)(h:MM base M mv c w)(hz:z=16):Calls prog 91 #[.pointer (some ⟨M,0,none⟩),.agg #[.int .i64 24,.int .i64 d,.int .i64 s,.int .i64 z,.int .i64 i]] w fun e w'=>RdP base M mv c (some (U7 d s i z c)) w e w':=by
 have hnew:=RC.new h 24 (d:Int) (s:Int) z i;obtain⟨W0,hW0⟩:∃W,w.alloc (.cells #[.int .i64 24,.int .i64 (d:Int),.int .i64 (s:Int),.int .i64 z,.int .i64 i] 61)=W:=⟨_,rfl⟩
 rw[hW0]at hnew;have rd:=(hnew.m.reg hd).1;have fd:=(hnew.m.reg hd).2;have rs:=(hnew.m.reg hs).1;have r1:=(hnew.m.reg (d:=1) (by decide)).1;obtain⟨y0,y1⟩:=h.rb d;obtain⟨v0,v1⟩:=h.rb s;obtain⟨u0,u1⟩:=h.rb 1;obtain⟨g0,g1⟩:=h.fb;have fc:=(hnew.m.tailAt 0 _ rfl).1;obtain⟨⟨x0,x1,x2,x3,x4⟩,xf⟩:=hnew.b.cells;have hBl:=hnew.b.lt;have hMl:=hnew.m.ltM;have hd1:(d:Int)<32:=by omega
 have hs1:(s:Int)<32:=by omega
 have HN:=hid hnew;clear hnew;subst hz;have hp0:0≤c.r.getD d 0%65536∧c.r.getD d 0%65536<65536:=by omega
 have CP:=hid (fun wk=>show Calls _ _ _ wk (fun e w'=>e= .returned (.int .i64 (c.r.getD d 0%65536))∧wk=w')from F9 (c.r.getD d 0) 16 wk (by decide) y0 y1);have hn:0≤65535-c.r.getD d 0%65536∧65535-c.r.getD d 0%65536<65536:=by omega
 have hw:wrap64 (wrap64 (wrap64 (2^min 16 64)-1)-c.r.getD d 0%65536)=65535-c.r.getD d 0%65536:=by rw[show wrap64 (wrap64 (2^min 16 64)-1)=65535 by decide+kernel];exact IntWalk.wrap64_in _ (by omega)
 have CWR:Hid (∀k,Calls prog 86 #[.pointer (some ⟨M,0,none⟩),.int .i64 d,.int .i64 (wrap64 (wrap64 (wrap64 (2^min 16 64)-1)-c.r.getD d 0%65536)),.int .i64 16] (W0.drewN k) fun e w'=>e= .returned (.tuple #[])∧MM base M mv {c with r:=c.r.set d (wrQ (c.r.getD d 0) (65535-c.r.getD d 0%65536) 16)} w'∧Ch M M mv (W0.drewN k) w'):=hid (fun k=>by rw[hw];exact G2 d hd (65535-c.r.getD d 0%65536) 16 (W0.drewN k) (HN.out.drewN k).m (by decide) hn.1 hn.2);clear hw;have CWR2:=hid (fun k=>G2 d hd (65535-c.r.getD d 0%65536) 16 (W0.drewN k) (HN.out.drewN k).m (by decide) hn.1 hn.2);have HE:Hid (U7 d s i 16 c={c with r:=c.r.set d (wrQ (c.r.getD d 0) (65535-c.r.getD d 0%65536) 16)}):=hid (by
  unfold U7;have e1:pwZ 16=65536:=rfl;have e2:wrR (c.r.getD d 0) (4294967295-c.r.getD d 0%pwZ 16) 16=wrQ (c.r.getD d 0) (65535-c.r.getD d 0%65536) 16:=by
   unfold wrR wrQ;rw[e1];omega
  rw[e2])
 rw[HE.out];obtain⟨p0,p1⟩:=hp0;obtain⟨n0,n1⟩:=hn;generalize c.r.getD d 0%65536=p at*
 generalize c.r.getD d 0=rdv at*
 exact B1U
theorem A3t(d s:Nat)(hd:d<32)(hs:s<32)(z i:Int)(w:World)(h:MM base M mv c w)(hz:z=32):Calls prog 91 #[.pointer (some ⟨M,0,none⟩),.agg #[.int .i64 24,.int .i64 d,.int .i64 s,.int .i64 z,.int .i64 i]] w fun e w'=>RdP base M mv c (some (U7 d s i z c)) w e w':=by
 have hnew:=RC.new h 24 (d:Int) (s:Int) z i;obtain⟨W0,hW0⟩:∃W,w.alloc (.cells #[.int .i64 24,.int .i64 (d:Int),.int .i64 (s:Int),.int .i64 z,.int .i64 i] 61)=W:=⟨_,rfl⟩
 rw[hW0]at hnew;have rd:=(hnew.m.reg hd).1;have fd:=(hnew.m.reg hd).2;have rs:=(hnew.m.reg hs).1;have r1:=(hnew.m.reg (d:=1) (by decide)).1;obtain⟨y0,y1⟩:=h.rb d;obtain⟨v0,v1⟩:=h.rb s;obtain⟨u0,u1⟩:=h.rb 1;obtain⟨g0,g1⟩:=h.fb;have fc:=(hnew.m.tailAt 0 _ rfl).1;obtain⟨⟨x0,x1,x2,x3,x4⟩,xf⟩:=hnew.b.cells;have hBl:=hnew.b.lt;have hMl:=hnew.m.ltM;have hd1:(d:Int)<32:=by omega
 have hs1:(s:Int)<32:=by omega
 have HN:=hid hnew;clear hnew;subst hz;have hp0:0≤c.r.getD d 0%4294967296∧c.r.getD d 0%4294967296<4294967296:=by omega
 have CP:=hid (fun wk=>show Calls _ _ _ wk (fun e w'=>e= .returned (.int .i64 (c.r.getD d 0%4294967296))∧wk=w')from F9 (c.r.getD d 0) 32 wk (by decide) y0 y1);have hn:0≤4294967295-c.r.getD d 0%4294967296∧4294967295-c.r.getD d 0%4294967296<4294967296:=by omega
 have hw:wrap64 (wrap64 (wrap64 (2^min 32 64)-1)-c.r.getD d 0%4294967296)=4294967295-c.r.getD d 0%4294967296:=by rw[show wrap64 (wrap64 (2^min 32 64)-1)=4294967295 by decide+kernel];exact IntWalk.wrap64_in _ (by omega)
 have CWR:Hid (∀k,Calls prog 86 #[.pointer (some ⟨M,0,none⟩),.int .i64 d,.int .i64 (wrap64 (wrap64 (wrap64 (2^min 32 64)-1)-c.r.getD d 0%4294967296)),.int .i64 32] (W0.drewN k) fun e w'=>e= .returned (.tuple #[])∧MM base M mv {c with r:=c.r.set d (wrQ (c.r.getD d 0) (4294967295-c.r.getD d 0%4294967296) 32)} w'∧Ch M M mv (W0.drewN k) w'):=hid (fun k=>by rw[hw];exact G2 d hd (4294967295-c.r.getD d 0%4294967296) 32 (W0.drewN k) (HN.out.drewN k).m (by decide) hn.1 hn.2);clear hw;have CWR2:=hid (fun k=>G2 d hd (4294967295-c.r.getD d 0%4294967296) 32 (W0.drewN k) (HN.out.drewN k).m (by decide) hn.1 hn.2);have HE:Hid (U7 d s i 32 c={c with r:=c.r.set d (wrQ (c.r.getD d 0) (4294967295-c.r.getD d 0%4294967296) 32)}):=hid (by
  unfold U7;have e1:pwZ 32=4294967296:=rfl;have e2:wrR (c.r.getD d 0) (4294967295-c.r.getD d 0%pwZ 32) 32=wrQ (c.r.getD d 0) (4294967295-c.r.getD d 0%4294967296) 32:=by
   unfold wrR wrQ;rw[e1];omega
  rw[e2])
 rw[HE.out];obtain⟨p0,p1⟩:=hp0;obtain⟨n0,n1⟩:=hn;generalize c.r.getD d 0%4294967296=p at*
 generalize c.r.getD d 0=rdv at*
 exact B1U
theorem A9t(d s:Nat)(hd:d<32)(hs:s<32)(z i:Int)(w:World)(h:MM base M mv c w)(hz:z=16∨z=32):Calls prog 91 #[.pointer (some ⟨M,0,none⟩),.agg #[.int .i64 25,.int .i64 d,.int .i64 s,.int .i64 z,.int .i64 i]] w fun e w'=>RdP base M mv c (some (A1O d s i z c)) w e w':=by
 have hnew:=RC.new h 25 (d:Int) (s:Int) z i;obtain⟨W0,hW0⟩:∃W,w.alloc (.cells #[.int .i64 25,.int .i64 (d:Int),.int .i64 (s:Int),.int .i64 z,.int .i64 i] 61)=W:=⟨_,rfl⟩
 rw[hW0]at hnew;have rd:=(hnew.m.reg hd).1;have fd:=(hnew.m.reg hd).2;have rs:=(hnew.m.reg hs).1;have r1:=(hnew.m.reg (d:=1) (by decide)).1;obtain⟨y0,y1⟩:=h.rb d;obtain⟨v0,v1⟩:=h.rb s;obtain⟨u0,u1⟩:=h.rb 1;obtain⟨g0,g1⟩:=h.fb;have fc:=(hnew.m.tailAt 0 _ rfl).1;obtain⟨⟨x0,x1,x2,x3,x4⟩,xf⟩:=hnew.b.cells;have hBl:=hnew.b.lt;have hMl:=hnew.m.ltM;have hd1:(d:Int)<32:=by omega
 have hs1:(s:Int)<32:=by omega
 have HN:=hid hnew;clear hnew;have hpw:=N0 hz;have hp0:0≤c.r.getD d 0%pwZ z:=Int.emod_nonneg _ (by omega);have hp1:c.r.getD d 0%pwZ z<pwZ z:=Int.emod_lt_of_pos _ (by omega);have CP:=hid (fun wk=>F9 (c.r.getD d 0) z wk (by omega) y0 y1);have CC:=hid (fun wk=>s6 25 0 (c.r.getD d 0%pwZ z) z wk (by omega) hz (by omega) (by omega) hp0 hp1);have hn0:0≤suN 0 (c.r.getD d 0%pwZ z) z:=Int.emod_nonneg _ (by omega);have hn1:suN 0 (c.r.getD d 0%pwZ z) z<pwZ z:=Int.emod_lt_of_pos _ (by omega);have hfb:0≤rsF (suN 0 (c.r.getD d 0%pwZ z) z) z (suO 0 (c.r.getD d 0%pwZ z) z)∧rsF (suN 0 (c.r.getD d 0%pwZ z) z) z (suO 0 (c.r.getD d 0%pwZ z) z)≤15:=Q7 (by unfold suO;split<;>split<;>simp);have CWR:=hid (fun k=>G2 d hd (suN 0 (c.r.getD d 0%pwZ z) z) z (W0.drewN k) (HN.out.drewN k).m (by omega) hn0 hn1);have HQ:=hid (R7 (r:=c.r.getD d 0) hn0 hn1);unfold A1O;rw[←HQ.out];obtain⟨fb0,fb1⟩:=hfb;generalize rsF (suN 0 (c.r.getD d 0%pwZ z) z) z (suO 0 (c.r.getD d 0%pwZ z) z)=ff at*
 generalize suN 0 (c.r.getD d 0%pwZ z) z=nn at*
 generalize c.r.getD d 0%pwZ z=p at*
 generalize c.r.getD d 0=rdv at*
 clear HQ;go_enter func91,ntmps91;go_upto_region 15 with fail
 go_quiet(first|(go_at_call 87;with_reducible exact B8 (CP.out _))|(go_at_call 90;with_reducible exact B8 (CC.out _)))
 have HN2:=hid (HN.out.drewN nq);obtain⟨⟨x0,x1,x2,x3,x4⟩,xf⟩:=HN2.out.b.cells;have hBl:=HN2.out.b.lt;have CWQ:=hid (CWR.out nq);clear CWR CP CC rd fd rs r1 fc hMl;generalize W0.drewN nq=Wq at*
 go_upto_region 17 with((with_reducible refine(CWQ.out).mono ?_);rintro e w1 ⟨rfl,hm1,hc1⟩;have HM1:=hid hm1;have HC1:=hid hc1;clear hm1 hc1)
 have k32:=(HM1.out.tailAt 0 _ rfl).1;have g32:=(HM1.out.tailAt 0 _ rfl).2;have hM1:=HM1.out.ltM;go_wp2_with fail
 go_ret;exact RdP.ok rfl (HM1.out.setF fb0 fb1) ((HN2.out.ch.trans HC1.out).setM _ _)
theorem A9w(d s:Nat)(hd:d<32)(hs:s<32)(z i:Int)(w:World)(h:MM base M mv c w)(hz:z=16∨z=32):Calls prog 91 #[.pointer (some ⟨M,0,none⟩),.agg #[.int .i64 21,.int .i64 d,.int .i64 s,.int .i64 z,.int .i64 i]] w fun e w'=>RdP base M mv c (some (A2c d s i z c)) w e w':=by
 have hnew:=RC.new h 21 (d:Int) (s:Int) z i;obtain⟨W0,hW0⟩:∃W,w.alloc (.cells #[.int .i64 21,.int .i64 (d:Int),.int .i64 (s:Int),.int .i64 z,.int .i64 i] 61)=W:=⟨_,rfl⟩
 rw[hW0]at hnew;have rd:=(hnew.m.reg hd).1;have fd:=(hnew.m.reg hd).2;have rs:=(hnew.m.reg hs).1;have r1:=(hnew.m.reg (d:=1) (by decide)).1;obtain⟨y0,y1⟩:=h.rb d;obtain⟨v0,v1⟩:=h.rb s;obtain⟨u0,u1⟩:=h.rb 1;obtain⟨g0,g1⟩:=h.fb;have fc:=(hnew.m.tailAt 0 _ rfl).1;obtain⟨⟨x0,x1,x2,x3,x4⟩,xf⟩:=hnew.b.cells;have hBl:=hnew.b.lt;have hMl:=hnew.m.ltM;have hd1:(d:Int)<32:=by omega
 have hs1:(s:Int)<32:=by omega
 have HN:=hid hnew;clear hnew;have hpw:=N0 hz;have hp0:0≤c.r.getD d 0%pwZ z:=Int.emod_nonneg _ (by omega);have hp1:c.r.getD d 0%pwZ z<pwZ z:=Int.emod_lt_of_pos _ (by omega);have CP:=hid (fun wk=>F9 (c.r.getD d 0) z wk (by omega) y0 y1);have CB:=hid (fun wk=>show Calls _ _ _ wk (fun e w'=>e= .returned (.int .i64 (c.r.getD 1 0%32))∧wk=w')from F9 (c.r.getD 1 0) 5 wk (by decide) u0 u1);show Calls _ _ _ _ (fun e w'=>RdP base M mv c (some (shM 21 z d c)) w e w')
 unfold shM;by_cases hb:c.r.getD 1 0%32=0
 ·exact A8k
 ·rw[if_neg hb];have db:(c.r.getD 1 0%32==0)=false:=by simpa using hb
  have CS:=hid (fun wk=>x8 21 (c.r.getD d 0%pwZ z) (c.r.getD 1 0%32) z wk (by decide) hz hp0 hp1 (by omega));have hn:=N4 (op:=21) hz hp0 hp1 (c.r.getD 1 0%32).toNat;generalize(shN 21 z (c.r.getD d 0%pwZ z) (c.r.getD 1 0%32).toNat).1=nn at*
  generalize(shN 21 z (c.r.getD d 0%pwZ z) (c.r.getD 1 0%32).toNat).2=oo at*
  have CF:=hid (fun wk=>L0 nn z oo false wk hz hn.1 (by omega));rw[A4t hz hn.1 hn.2]at CF;have hfb:0≤rsF nn z (if oo=true then 1 else 0)∧rsF nn z (if oo=true then 1 else 0)≤15:=Q7 (by split<;>simp);have CWR:=hid (fun k=>G2 d hd nn z (W0.drewN k) (HN.out.drewN k).m (by omega) hn.1 hn.2);have HQ:=hid (R7 (r:=c.r.getD d 0) hn.1 hn.2);rw[←HQ.out];obtain⟨fb0,fb1⟩:=hfb;generalize rsF nn z (if oo=true then 1 else 0)=ff at*
  generalize c.r.getD d 0%pwZ z=p at*
  generalize c.r.getD 1 0%32=bv at*
  generalize c.r.getD 1 0=r1v at*
  generalize c.r.getD d 0=rdv at*
  clear HQ hb;exact A9B
theorem A9v(d s:Nat)(hd:d<32)(hs:s<32)(z i:Int)(w:World)(h:MM base M mv c w)(hz:z=16∨z=32):Calls prog 91 #[.pointer (some ⟨M,0,none⟩),.agg #[.int .i64 22,.int .i64 d,.int .i64 s,.int .i64 z,.int .i64 i]] w fun e w'=>RdP base M mv c (some (A2b d s i z c)) w e w':=by
 have hnew:=RC.new h 22 (d:Int) (s:Int) z i;obtain⟨W0,hW0⟩:∃W,w.alloc (.cells #[.int .i64 22,.int .i64 (d:Int),.int .i64 (s:Int),.int .i64 z,.int .i64 i] 61)=W:=⟨_,rfl⟩
 rw[hW0]at hnew;have rd:=(hnew.m.reg hd).1;have fd:=(hnew.m.reg hd).2;have rs:=(hnew.m.reg hs).1;have r1:=(hnew.m.reg (d:=1) (by decide)).1;obtain⟨y0,y1⟩:=h.rb d;obtain⟨v0,v1⟩:=h.rb s;obtain⟨u0,u1⟩:=h.rb 1;obtain⟨g0,g1⟩:=h.fb;have fc:=(hnew.m.tailAt 0 _ rfl).1;obtain⟨⟨x0,x1,x2,x3,x4⟩,xf⟩:=hnew.b.cells;have hBl:=hnew.b.lt;have hMl:=hnew.m.ltM;have hd1:(d:Int)<32:=by omega
 have hs1:(s:Int)<32:=by omega
 have HN:=hid hnew;clear hnew;have hpw:=N0 hz;have hp0:0≤c.r.getD d 0%pwZ z:=Int.emod_nonneg _ (by omega);have hp1:c.r.getD d 0%pwZ z<pwZ z:=Int.emod_lt_of_pos _ (by omega);have CP:=hid (fun wk=>F9 (c.r.getD d 0) z wk (by omega) y0 y1);have CB:=hid (fun wk=>show Calls _ _ _ wk (fun e w'=>e= .returned (.int .i64 (c.r.getD 1 0%32))∧wk=w')from F9 (c.r.getD 1 0) 5 wk (by decide) u0 u1);show Calls _ _ _ _ (fun e w'=>RdP base M mv c (some (shM 22 z d c)) w e w')
 unfold shM;by_cases hb:c.r.getD 1 0%32=0
 ·exact A8k
 ·rw[if_neg hb];have db:(c.r.getD 1 0%32==0)=false:=by simpa using hb
  have CS:=hid (fun wk=>x8 22 (c.r.getD d 0%pwZ z) (c.r.getD 1 0%32) z wk (by decide) hz hp0 hp1 (by omega));have hn:=N4 (op:=22) hz hp0 hp1 (c.r.getD 1 0%32).toNat;generalize(shN 22 z (c.r.getD d 0%pwZ z) (c.r.getD 1 0%32).toNat).1=nn at*
  generalize(shN 22 z (c.r.getD d 0%pwZ z) (c.r.getD 1 0%32).toNat).2=oo at*
  have CF:=hid (fun wk=>L0 nn z oo false wk hz hn.1 (by omega));rw[A4t hz hn.1 hn.2]at CF;have hfb:0≤rsF nn z (if oo=true then 1 else 0)∧rsF nn z (if oo=true then 1 else 0)≤15:=Q7 (by split<;>simp);have CWR:=hid (fun k=>G2 d hd nn z (W0.drewN k) (HN.out.drewN k).m (by omega) hn.1 hn.2);have HQ:=hid (R7 (r:=c.r.getD d 0) hn.1 hn.2);rw[←HQ.out];obtain⟨fb0,fb1⟩:=hfb;generalize rsF nn z (if oo=true then 1 else 0)=ff at*
  generalize c.r.getD d 0%pwZ z=p at*
  generalize c.r.getD 1 0%32=bv at*
  generalize c.r.getD 1 0=r1v at*
  generalize c.r.getD d 0=rdv at*
  clear HQ hb;exact A9B
theorem A9u(d s:Nat)(hd:d<32)(hs:s<32)(z i:Int)(w:World)(h:MM base M mv c w)(hz:z=16∨z=32):Calls prog 91 #[.pointer (some ⟨M,0,none⟩),.agg #[.int .i64 23,.int .i64 d,.int .i64 s,.int .i64 z,.int .i64 i]] w fun e w'=>RdP base M mv c (some (A2a d s i z c)) w e w':=by
 have hnew:=RC.new h 23 (d:Int) (s:Int) z i;obtain⟨W0,hW0⟩:∃W,w.alloc (.cells #[.int .i64 23,.int .i64 (d:Int),.int .i64 (s:Int),.int .i64 z,.int .i64 i] 61)=W:=⟨_,rfl⟩
 rw[hW0]at hnew;have rd:=(hnew.m.reg hd).1;have fd:=(hnew.m.reg hd).2;have rs:=(hnew.m.reg hs).1;have r1:=(hnew.m.reg (d:=1) (by decide)).1;obtain⟨y0,y1⟩:=h.rb d;obtain⟨v0,v1⟩:=h.rb s;obtain⟨u0,u1⟩:=h.rb 1;obtain⟨g0,g1⟩:=h.fb;have fc:=(hnew.m.tailAt 0 _ rfl).1;obtain⟨⟨x0,x1,x2,x3,x4⟩,xf⟩:=hnew.b.cells;have hBl:=hnew.b.lt;have hMl:=hnew.m.ltM;have hd1:(d:Int)<32:=by omega
 have hs1:(s:Int)<32:=by omega
 have HN:=hid hnew;clear hnew;have hpw:=N0 hz;have hp0:0≤c.r.getD d 0%pwZ z:=Int.emod_nonneg _ (by omega);have hp1:c.r.getD d 0%pwZ z<pwZ z:=Int.emod_lt_of_pos _ (by omega);have CP:=hid (fun wk=>F9 (c.r.getD d 0) z wk (by omega) y0 y1);have CB:=hid (fun wk=>show Calls _ _ _ wk (fun e w'=>e= .returned (.int .i64 (c.r.getD 1 0%32))∧wk=w')from F9 (c.r.getD 1 0) 5 wk (by decide) u0 u1);show Calls _ _ _ _ (fun e w'=>RdP base M mv c (some (shM 23 z d c)) w e w')
 unfold shM;by_cases hb:c.r.getD 1 0%32=0
 ·exact A8k
 ·rw[if_neg hb];have db:(c.r.getD 1 0%32==0)=false:=by simpa using hb
  have CS:=hid (fun wk=>x8 23 (c.r.getD d 0%pwZ z) (c.r.getD 1 0%32) z wk (by decide) hz hp0 hp1 (by omega));have hn:=N4 (op:=23) hz hp0 hp1 (c.r.getD 1 0%32).toNat;generalize(shN 23 z (c.r.getD d 0%pwZ z) (c.r.getD 1 0%32).toNat).1=nn at*
  generalize(shN 23 z (c.r.getD d 0%pwZ z) (c.r.getD 1 0%32).toNat).2=oo at*
  have CF:=hid (fun wk=>L0 nn z oo false wk hz hn.1 (by omega));rw[A4t hz hn.1 hn.2]at CF;have hfb:0≤rsF nn z (if oo=true then 1 else 0)∧rsF nn z (if oo=true then 1 else 0)≤15:=Q7 (by split<;>simp);have CWR:=hid (fun k=>G2 d hd nn z (W0.drewN k) (HN.out.drewN k).m (by omega) hn.1 hn.2);have HQ:=hid (R7 (r:=c.r.getD d 0) hn.1 hn.2);rw[←HQ.out];obtain⟨fb0,fb1⟩:=hfb;generalize rsF nn z (if oo=true then 1 else 0)=ff at*
  generalize c.r.getD d 0%pwZ z=p at*
  generalize c.r.getD 1 0%32=bv at*
  generalize c.r.getD 1 0=r1v at*
  generalize c.r.getD d 0=rdv at*
  clear HQ hb;exact A9B
theorem A9m(d s:Nat)(hd:d<32)(hs:s<32)(z i:Int)(w:World)(h:MM base M mv c w):Calls prog 91 #[.pointer (some ⟨M,0,none⟩),.agg #[.int .i64 32,.int .i64 d,.int .i64 s,.int .i64 z,.int .i64 i]] w fun e w'=>RdP base M mv c (some (c)) w e w':=by
 have hnew:=RC.new h 32 (d:Int) (s:Int) z i;obtain⟨W0,hW0⟩:∃W,w.alloc (.cells #[.int .i64 32,.int .i64 (d:Int),.int .i64 (s:Int),.int .i64 z,.int .i64 i] 61)=W:=⟨_,rfl⟩
 rw[hW0]at hnew;have rd:=(hnew.m.reg hd).1;have fd:=(hnew.m.reg hd).2;have rs:=(hnew.m.reg hs).1;have r1:=(hnew.m.reg (d:=1) (by decide)).1;obtain⟨y0,y1⟩:=h.rb d;obtain⟨v0,v1⟩:=h.rb s;obtain⟨u0,u1⟩:=h.rb 1;obtain⟨g0,g1⟩:=h.fb;have fc:=(hnew.m.tailAt 0 _ rfl).1;obtain⟨⟨x0,x1,x2,x3,x4⟩,xf⟩:=hnew.b.cells;have hBl:=hnew.b.lt;have hMl:=hnew.m.ltM;have hd1:(d:Int)<32:=by omega
 have hs1:(s:Int)<32:=by omega
 have HN:=hid hnew;clear hnew;clear rd rs r1;go_enter func91,ntmps91;go_wp2_with fail
 go_ret;exact RdP.ok rfl HN.out.m HN.out.ch
theorem A9l(d s:Nat)(hd:d<32)(hs:s<32)(z i:Int)(w:World)(h:MM base M mv c w):Calls prog 91 #[.pointer (some ⟨M,0,none⟩),.agg #[.int .i64 33,.int .i64 d,.int .i64 s,.int .i64 z,.int .i64 i]] w fun e w'=>RdP base M mv c (some (c)) w e w':=by
 have hnew:=RC.new h 33 (d:Int) (s:Int) z i;obtain⟨W0,hW0⟩:∃W,w.alloc (.cells #[.int .i64 33,.int .i64 (d:Int),.int .i64 (s:Int),.int .i64 z,.int .i64 i] 61)=W:=⟨_,rfl⟩
 rw[hW0]at hnew;have rd:=(hnew.m.reg hd).1;have fd:=(hnew.m.reg hd).2;have rs:=(hnew.m.reg hs).1;have r1:=(hnew.m.reg (d:=1) (by decide)).1;obtain⟨y0,y1⟩:=h.rb d;obtain⟨v0,v1⟩:=h.rb s;obtain⟨u0,u1⟩:=h.rb 1;obtain⟨g0,g1⟩:=h.fb;have fc:=(hnew.m.tailAt 0 _ rfl).1;obtain⟨⟨x0,x1,x2,x3,x4⟩,xf⟩:=hnew.b.cells;have hBl:=hnew.b.lt;have hMl:=hnew.m.ltM;have hd1:(d:Int)<32:=by omega
 have hs1:(s:Int)<32:=by omega
 have HN:=hid hnew;clear hnew;clear rd rs r1;go_enter func91,ntmps91;go_wp2_with fail
 go_ret;exact RdP.ok rfl HN.out.m HN.out.ch
theorem A9k(d s:Nat)(hd:d<32)(hs:s<32)(z i:Int)(w:World)(h:MM base M mv c w):Calls prog 91 #[.pointer (some ⟨M,0,none⟩),.agg #[.int .i64 36,.int .i64 d,.int .i64 s,.int .i64 z,.int .i64 i]] w fun e w'=>RdP base M mv c (some (c)) w e w':=by
 have hnew:=RC.new h 36 (d:Int) (s:Int) z i;obtain⟨W0,hW0⟩:∃W,w.alloc (.cells #[.int .i64 36,.int .i64 (d:Int),.int .i64 (s:Int),.int .i64 z,.int .i64 i] 61)=W:=⟨_,rfl⟩
 rw[hW0]at hnew;have rd:=(hnew.m.reg hd).1;have fd:=(hnew.m.reg hd).2;have rs:=(hnew.m.reg hs).1;have r1:=(hnew.m.reg (d:=1) (by decide)).1;obtain⟨y0,y1⟩:=h.rb d;obtain⟨v0,v1⟩:=h.rb s;obtain⟨u0,u1⟩:=h.rb 1;obtain⟨g0,g1⟩:=h.fb;have fc:=(hnew.m.tailAt 0 _ rfl).1;obtain⟨⟨x0,x1,x2,x3,x4⟩,xf⟩:=hnew.b.cells;have hBl:=hnew.b.lt;have hMl:=hnew.m.ltM;have hd1:(d:Int)<32:=by omega
 have hs1:(s:Int)<32:=by omega
 have HN:=hid hnew;clear hnew;clear rd rs r1;go_enter func91,ntmps91;go_wp2_with fail
 go_ret;exact RdP.ok rfl HN.out.m HN.out.ch
theorem A9s(d s:Nat)(hd:d<32)(hs:s<32)(z i:Int)(w:World)(h:MM base M mv c w):Calls prog 91 #[.pointer (some ⟨M,0,none⟩),.agg #[.int .i64 26,.int .i64 d,.int .i64 s,.int .i64 z,.int .i64 i]] w fun e w'=>RdP base M mv c (N6 d c) w e w':=by
 have hnew:=RC.new h 26 (d:Int) (s:Int) z i;obtain⟨W0,hW0⟩:∃W,w.alloc (.cells #[.int .i64 26,.int .i64 (d:Int),.int .i64 (s:Int),.int .i64 z,.int .i64 i] 61)=W:=⟨_,rfl⟩
 rw[hW0]at hnew;obtain⟨⟨x0,x1,x2,x3,x4⟩,xf⟩:=hnew.b.cells;have hBl:=hnew.b.lt;have hMl:=hnew.m.ltM;have HN:=hid hnew;have CD:=hid (A1Z (c:=c) d hd (s:Int) z i W0 hnew.m);clear hnew;generalize N6 d c=od at*
 cases od
 ·exact A5y
 ·exact A5y
theorem A9r(d s:Nat)(hd:d<32)(hs:s<32)(z i:Int)(w:World)(h:MM base M mv c w):Calls prog 91 #[.pointer (some ⟨M,0,none⟩),.agg #[.int .i64 27,.int .i64 d,.int .i64 s,.int .i64 z,.int .i64 i]] w fun e w'=>RdP base M mv c (R4 d c) w e w':=by
 have hnew:=RC.new h 27 (d:Int) (s:Int) z i;obtain⟨W0,hW0⟩:∃W,w.alloc (.cells #[.int .i64 27,.int .i64 (d:Int),.int .i64 (s:Int),.int .i64 z,.int .i64 i] 61)=W:=⟨_,rfl⟩
 rw[hW0]at hnew;obtain⟨⟨x0,x1,x2,x3,x4⟩,xf⟩:=hnew.b.cells;have hBl:=hnew.b.lt;have hMl:=hnew.m.ltM;have HN:=hid hnew;have CD:=hid (A1Y (c:=c) d hd (s:Int) z i W0 hnew.m);clear hnew;generalize R4 d c=od at*
 cases od
 ·exact A5y
 ·exact A5y
end
end Go.Proofs.YtdojafpjipcbjaaGreat
