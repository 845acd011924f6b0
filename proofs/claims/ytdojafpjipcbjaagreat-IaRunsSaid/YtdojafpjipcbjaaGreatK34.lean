/- -/
import Derived.Deep.CutRange
import Derived.Test.YtdojafpjipcbjaaGreatK12
import Derived.Test.YtdojafpjipcbjaaGreatK31
import Derived.Test.YtdojafpjipcbjaaGreatK33
open Go.Proofs.Tryz
open Go.Lib (hid)
set_option maxRecDepth 100000
namespace Go.Proofs.YtdojafpjipcbjaaGreat
open Go.RowKit
set_option linter.unusedVariables false
set_option linter.unusedSimpArgs false
theorem A8z{p:Prop}(h:p:=by
 go_wp2_with((with_reducible first|refine(C1.out).mono ?_|refine(C2.out).mono ?_|refine(C3.out).mono ?_|refine(C4.out).mono ?_|refine(S1.out).mono ?_|refine(CT.out).mono ?_);rintro e w' ⟨rfl,rfl⟩)
 refine bodyPost_ret (v:=D5 ⟨-1,0,0,0,0⟩) (by simp[results,results83,go_sem,D5,rF,mF,q0,q1,q2,q3,q4]) rfl ⟨by rw[HX.out],?_⟩;exact B6 HB0.out (Nat.le_refl _) _ _ _ _ _
 ):p:=h
theorem B1W{p:Prop}(h:p:=by
 go_wp2_with((with_reducible first|refine(C1.out).mono ?_|refine(C2.out).mono ?_|refine(C3.out).mono ?_|refine(C4.out).mono ?_|refine(S1.out).mono ?_|refine(CT.out).mono ?_);rintro e w' ⟨rfl,rfl⟩)
 refine bodyPost_ret (v:=D5 ⟨t,mF m,rF m,z,0⟩) (by simp[results,results83,go_sem,D5,rF,mF,q0,q1,q2,q3,q4]) rfl ⟨by rw[HX.out],?_⟩;exact B6 HB0.out (Nat.le_refl _) _ _ _ _ _
 ):p:=h
set_option maxHeartbeats 4000000 in
theorem A1l(l:List Int)(v:Value)(a:Nat)(z:Int)(w:World)(hv:Ints .u8 w v l)(hby:Byt l)(ha:a≤1)(hal:a≤l.length)(hz:z=16∨z=32):Calls prog 83 #[v,.int .i64 a,.int .i64 z] w fun e w'=>e= .returned (D5 (gsR (l.drop a) z))∧Below w.heap.size w w':=by
 obtain⟨W0,hW0⟩:∃W,(w.alloc (.cells #[.int .i64 0,.int .i64 0,.int .i64 0,.int .i64 0,.int .i64 0] 61)).alloc (.cells #[.int .i64 (-1),.int .i64 0,.int .i64 0,.int .i64 0,.int .i64 0] 61)=W:=⟨_,rfl⟩
 have hb0:Below w.heap.size w W0:=by rw[←hW0];exact((Below.refl _ _).alloc (Nat.le_refl _) _).alloc (by simp) _
 have hbx:Box5 W0 w.heap.size 0 0 0 0 0:=by rw[←hW0];exact(Box5.new w 0 0 0 0 0).but ((But.refl (w.heap.size+1) _).alloc _) (by omega)
 have hbn:Box5 W0 (w.heap.size+1) (-1) 0 0 0 0:=by
  have:=Box5.new (w.alloc (.cells #[.int .i64 0,.int .i64 0,.int .i64 0,.int .i64 0,.int .i64 0] 61)) (-1) 0 0 0 0;rw[hW0,show(w.alloc (.cells #[.int .i64 0,.int .i64 0,.int .i64 0,.int .i64 0,.int .i64 0] 61)).heap.size=w.heap.size+1 by simp]at this;exact this
 have hv0:=hv.stays hb0;have C1:Hid (Calls prog 104 #[v,.int .i64 (a:Int),.int .i64 1] W0 fun e w'=>e= .returned (.tuple #[.int .i64 (nmR l (a) 1),.bool (nuB l (a) 1)])∧W0=w'):=hid (L5 l v (a) 1 W0 hv0 hby (by decide) (by omega));have C2:Hid (Calls prog 104 #[v,.int .i64 ((a:Int)+1),.int .i64 1] W0 fun e w'=>e= .returned (.tuple #[.int .i64 (nmR l ((a+1)) 1),.bool (nuB l ((a+1)) 1)])∧W0=w'):=hid (L5 l v ((a+1)) 1 W0 hv0 hby (by decide) (by omega));have C3:Hid (Calls prog 104 #[v,.int .i64 ((a:Int)+2),.int .i64 4] W0 fun e w'=>e= .returned (.tuple #[.int .i64 (nmR l ((a+2)) 4),.bool (nuB l ((a+2)) 4)])∧W0=w'):=hid (L5 l v ((a+2)) 4 W0 hv0 hby (by decide) (by omega));have C4:Hid (Calls prog 104 #[v,.int .i64 ((a:Int)+1),.int .i64 4] W0 fun e w'=>e= .returned (.tuple #[.int .i64 (nmR l ((a+1)) 4),.bool (nuB l ((a+1)) 4)])∧W0=w'):=hid (L5 l v ((a+1)) 4 W0 hv0 hby (by decide) (by omega));have C5:Hid (∀n k:Nat,k≤4→n≤3→Calls prog 104 #[v,.int .i64 n,.int .i64 k] W0 fun e w'=>e= .returned (.tuple #[.int .i64 (nmR l n k),.bool (nuB l n k)])∧W0=w'):=hid (fun n k hk hn=>L5 l v n k W0 hv0 hby hk (by omega));have CS:Hid (Calls prog 106 #[v,.int .i64 a] W0 fun e w'=>e= .returned (D5 (O2 (l.drop a)))∧Below W0.heap.size W0 w'):=hid (A0e l v a W0 hv0 hby ha hal);have CT:Hid (Calls prog 107 #[.int .i64 (nmR l a 1)] W0 fun e w'=>e= .returned (.int .i64 (L3 (nmR l a 1)))∧W0=w'):=hid (A3r _ W0);have k0:=P2 hby a;have k1:=P2 hby (a+1);have k2:=Z7 hby (a+2) 4 (by decide);have k3:=Z7 hby (a+1) 4 (by decide);have S1:=hid (E3 (nmR l (a+2) 4) 32 W0 (by unfold I64;omega) (by omega) (by decide));have S2:=hid (E3 (nmR l (a+1) 4) 32 W0 (by unfold I64;omega) (by omega) (by decide));have S3:=hid (E3 (nmR l (a+1) 1) 8 W0 (by unfold I64;omega) (by omega) (by decide));obtain⟨X,hX⟩:∃X,gsR (l.drop a) z=X:=⟨_,rfl⟩
 rw[hX];have hE:=hX.symm;unfold gsR at hE;simp only[A1f _ _ _ _ hal,←A2L,←A7r,Nat.add_zero]at hE;have hL:nuB l a 1=decide (a+1≤l.length):=rfl;have hdl:(l.drop a).length=l.length-a:=List.length_drop;generalize O2 (l.drop a)=sx at*
 have NM:∀k,Hid (nmR l (a+2) k=nmR l (a+2) k):=fun _=>rfl
 have HBY:=hid hby;have g4e:Hid (nmR l (a+1) 4=nmR l (a+1) 4):=rfl;obtain⟨c,hc⟩:∃c,nmR l a 1=c:=⟨_,rfl⟩
 obtain⟨m,hm⟩:∃c,nmR l (a+1) 1=c:=⟨_,rfl⟩
 obtain⟨f,hf⟩:∃c,nmR l (a+2) 4=c:=⟨_,rfl⟩
 obtain⟨g,hg⟩:∃c,nmR l (a+1) 4=c:=⟨_,rfl⟩
 rw[hc]at C1 CT hE k0;rw[hm]at C2 hE k1 S3;rw[hf]at C3 hE k2 S1;rw[hg]at C4 hE k3 S2;obtain⟨t,ht⟩:∃t,L3 c=t:=⟨_,rfl⟩
 rw[ht]at CT hE;have HC:=hid hc;have HM:=hid hm;have HF:=hid hf;have HG:=hid hg;have HT:=hid ht;clear hc hm hf hg ht;generalize nuB l a 1=b1 at*
 generalize nuB l (a+1) 1=b2 at*
 generalize nuB l (a+2) 4=b3 at*
 generalize nuB l (a+1) 4=b4 at*
 generalize sgB f 32=f2 at*
 generalize sgB g 32=g2 at*
 generalize sgB m 8=m2 at*
 have HE:=hid hE;have HB0:=hid hb0;have HZ:=hid hz;have hw1:wrap64 ((a:Int)+1)=(a:Int)+1:=IntWalk.wrap64_in _ (by omega);have hw2:wrap64 ((a:Int)+2)=(a:Int)+2:=IntWalk.wrap64_in _ (by omega);obtain⟨⟨q0,q1,q2,q3,q4⟩,qf⟩:=hbx.cells;obtain⟨⟨n0,n1,n2,n3,n4⟩,_⟩:=hbn.cells;have g0:=qf 0;have g1:=qf 1;have g2':=qf 2;have g3:=qf 3;have g4:=qf 4;have hltN:=hbn.lt;have HW0:=hid hW0;clear hX hE hb0 hbx hbn hv0 hv hby qf hz hW0;go_enter func83,ntmps83;go_upto_region 2 with fail
 rw[HW0.out];cases b1
 ·have hlen:(l.drop a).length=0:=by rw[hdl];simp at hL;omega
  have HX:Hid (X=⟨-1,0,0,0,0⟩):=hid (by rw[HE.out,if_pos hlen]);clear hL hdl hlen;go_wp2_with((with_reducible first|refine(C1.out).mono ?_|refine(C2.out).mono ?_|refine(C3.out).mono ?_|refine(C4.out).mono ?_|refine(S1.out).mono ?_|refine(CT.out).mono ?_);rintro e w' ⟨rfl,rfl⟩)
  refine bodyPost_ret (v:=D5 ⟨-1,0,0,0,0⟩) (by simp[results,results83,go_sem,D5,q0,q1,q2,q3,q4]) rfl ⟨by rw[HX.out],?_⟩;exact B6 HB0.out (Nat.le_refl _) _ _ _ _ _
 have hlen:¬(l.drop a).length=0:=by rw[hdl];simp at hL;omega
 have HE2:=hid (HE.out.trans (if_neg hlen));clear HE;clear hL hdl;obtain⟨mem,hmem⟩:∃b,(decide (128≤m)&&decide (m<192))=b:=⟨_,rfl⟩
 have HME:=hid hmem;clear hmem;go_upto_region 9 with((with_reducible first|refine(C1.out).mono ?_|refine(C2.out).mono ?_|refine(C3.out).mono ?_|refine(C4.out).mono ?_|refine(S1.out).mono ?_|refine(CT.out).mono ?_);rintro e w' ⟨rfl,rfl⟩)
 go_cut[16]from 58 to 63 (fun b wx=>b= .bool mem∧W0=wx)
 case first=>
  by_cases u1:128≤m
  ·have v1:decide (128≤m)=true:=decide_eq_true u1;have HQ:Hid (decide (m<192)=mem):=hid (by rw[←HME.out,v1];rfl);go_wp2_with fail
   go_meet
   case rel=>exact⟨congrArg Value.bool HQ.out,rfl⟩
  ·have v1:decide (128≤m)=false:=decide_eq_false u1;have HQ:Hid (false=mem):=hid (by rw[←HME.out,v1];rfl);go_wp2_with fail
   go_meet
   case rel=>exact⟨congrArg Value.bool HQ.out,rfl⟩
 case rest=>
  obtain⟨rfl,rfl⟩:=hcut;go_upto_region 12 with((with_reducible first|refine(C1.out).mono ?_|refine(C2.out).mono ?_|refine(C3.out).mono ?_|refine(C4.out).mono ?_|refine(S1.out).mono ?_|refine(CT.out).mono ?_);rintro e w' ⟨rfl,rfl⟩)
  by_cases h0:c=15
  ·have e15:(c==15)=true:=eqT (by omega);have HX:Hid (X=sx):=hid (by rw[HE2.out,if_pos (by omega)]);obtain⟨so,sd,ss,sz,si⟩:=sx;have CS2:Hid (Calls prog 106 #[v,.int .i64 a] W0 fun e w'=>e= .returned (.agg #[.int .i64 so,.int .i64 sd,.int .i64 ss,.int .i64 sz,.int .i64 si])∧Below W0.heap.size W0 w'):=CS;clear h0;go_wp2_with((with_reducible refine(CS2.out).mono ?_);rintro e w3 ⟨rfl,hb3⟩;have HB3:=hid (A2 HB0.out hb3);have r0:=Since.cell hb3 q0;have r1:=Since.cell hb3 q1;have r2:=Since.cell hb3 q2;have r3:=Since.cell hb3 q3;have r4:=Since.cell hb3 q4;have s0:=Since.free hb3 (Nat.lt_of_succ_lt hltN) g0;have s1:=Since.free hb3 (Nat.lt_of_succ_lt hltN) g1;have s2:=Since.free hb3 (Nat.lt_of_succ_lt hltN) g2';have s3:=Since.free hb3 (Nat.lt_of_succ_lt hltN) g3;have s4:=Since.free hb3 (Nat.lt_of_succ_lt hltN) g4)
   refine bodyPost_ret (v:=D5 ⟨so,sd,ss,sz,si⟩) (by simp[results,results83,go_sem,D5,r0,r1,r2,r3,r4]) rfl ⟨by rw[HX.out],?_⟩;exact B6 HB3.out (Nat.le_refl _) _ _ _ _ _
  by_cases h1:c=137∧128≤m∧m<192
  ·have e15:(c==15)=false:=A8 (by omega);have e137:(c==137)=true:=eqT (by omega);have hme:mem=true:=by rw[←HME.out,decide_eq_true (show 128≤m by omega),decide_eq_true (show m<192 by omega)];rfl
   subst hme;have HX:Hid (X=⟨3,mF m,rF m,z,f2⟩):=hid (by rw[HE2.out,if_neg (by omega),if_pos (by omega)])
   (try clear y)
   (try clear HEQ)
   go_wp2_with((with_reducible first|refine(C1.out).mono ?_|refine(C2.out).mono ?_|refine(C3.out).mono ?_|refine(C4.out).mono ?_|refine(S1.out).mono ?_|refine(CT.out).mono ?_);rintro e w' ⟨rfl,rfl⟩)
   refine bodyPost_ret (v:=D5 ⟨3,mF m,rF m,z,f2⟩) (by simp[results,results83,go_sem,D5,rF,mF,q0,q1,q2,q3,q4]) rfl ⟨by rw[HX.out],?_⟩;exact B6 HB0.out (Nat.le_refl _) _ _ _ _ _
  by_cases h2:c=139
  ·have e15:(c==15)=false:=A8 (by omega);have e137:(c==137)=false:=A8 (by omega);have e139:(c==139)=true:=eqT (by omega);have HX:Hid (X=⟨2,rF m,mF m,z,f2⟩):=hid (by rw[HE2.out,if_neg (by omega),if_neg (by omega),if_pos (by omega)])
   (try clear y)
   (try clear HEQ)
   clear h2;go_wp2_with((with_reducible first|refine(C1.out).mono ?_|refine(C2.out).mono ?_|refine(C3.out).mono ?_|refine(C4.out).mono ?_|refine(S1.out).mono ?_|refine(CT.out).mono ?_);rintro e w' ⟨rfl,rfl⟩)
   refine bodyPost_ret (v:=D5 ⟨2,rF m,mF m,z,f2⟩) (by simp[results,results83,go_sem,D5,rF,mF,q0,q1,q2,q3,q4]) rfl ⟨by rw[HX.out],?_⟩;exact B6 HB0.out (Nat.le_refl _) _ _ _ _ _
  by_cases h3:c=136
  ·have e15:(c==15)=false:=A8 (by omega);have e137:(c==137)=false:=A8 (by omega);have e139:(c==139)=false:=A8 (by omega);have e136:(c==136)=true:=eqT (by omega);have HX:Hid (X=⟨6,mF m,rF m,z,f2⟩):=hid (by rw[HE2.out,if_neg (by omega),if_neg (by omega),if_neg (by omega),if_pos (by omega)])
   (try clear y)
   (try clear HEQ)
   clear h3;go_wp2_with((with_reducible first|refine(C1.out).mono ?_|refine(C2.out).mono ?_|refine(C3.out).mono ?_|refine(C4.out).mono ?_|refine(S1.out).mono ?_|refine(CT.out).mono ?_);rintro e w' ⟨rfl,rfl⟩)
   refine bodyPost_ret (v:=D5 ⟨6,mF m,rF m,z,f2⟩) (by simp[results,results83,go_sem,D5,rF,mF,q0,q1,q2,q3,q4]) rfl ⟨by rw[HX.out],?_⟩;exact B6 HB0.out (Nat.le_refl _) _ _ _ _ _
  by_cases h4:0≤t
  ·by_cases y:c=137
   ·have hme:mem=false:=by rw[←HME.out];simp;omega
    subst hme;have e15:(c==15)=false:=A8 (by omega);have e137:(c==137)=true:=eqT (by omega);have e139:(c==139)=false:=A8 (by omega);have e136:(c==136)=false:=A8 (by omega);have dt:decide (0≤t)=true:=decide_eq_true (by omega);have HX:Hid (X=⟨t,mF m,rF m,z,0⟩):=hid (by rw[HE2.out,if_neg (by omega),if_neg (by omega),if_neg (by omega),if_neg (by omega),if_pos (by omega)])
    (try clear y)
    (try clear HEQ)
    exact B1W
   ·have e15:(c==15)=false:=A8 (by omega);have e137:(c==137)=false:=A8 (by omega);have e139:(c==139)=false:=A8 (by omega);have e136:(c==136)=false:=A8 (by omega);have dt:decide (0≤t)=true:=decide_eq_true (by omega);have HX:Hid (X=⟨t,mF m,rF m,z,0⟩):=hid (by rw[HE2.out,if_neg (by omega),if_neg (by omega),if_neg (by omega),if_neg (by omega),if_pos (by omega)])
    (try clear y)
    (try clear HEQ)
    exact B1W
  have h137:c≠137:=fun e=>h4 (by rw[←HT.out,e];decide)
  by_cases h5:184≤c∧c≤191
  ·rcases HZ.out with rfl|rfl
   ·have e15:(c==15)=false:=A8 (by omega);have e137:(c==137)=false:=A8 (by omega);have e139:(c==139)=false:=A8 (by omega);have e136:(c==136)=false:=A8 (by omega);have dt:decide (0≤t)=false:=decide_eq_false (by omega);have da:decide (184≤c)=true:=decide_eq_true (by omega);have db:decide (c≤191)=true:=decide_eq_true (by omega);have C6:Hid (Calls prog 104 #[v,.int .i64 ((a:Int)+1),.int .i64 2] W0 fun e w'=>e= .returned (.tuple #[.int .i64 (nmR l (a+1) 2),.bool (nuB l (a+1) 2)])∧W0=w'):=C5.out (a+1) 2 (by decide) (by omega);have HX:Hid (X=⟨1,c-184,0,16,nmR l (a+1) 2⟩):=hid (by rw[HE2.out,if_neg (by omega),if_neg (by omega),if_neg (by omega),if_neg (by omega),if_neg (by omega),if_pos (by omega)];rfl);generalize nmR l (a+1) 2=u at*
    generalize nuB l (a+1) 2=bu at*
    go_wp2_with((with_reducible first|refine(C6.out).mono ?_|refine(CT.out).mono ?_);rintro e w' ⟨rfl,rfl⟩)
    refine bodyPost_ret (v:=D5 ⟨1,c-184,0,16,u⟩) (by simp[results,results83,go_sem,D5,rF,mF,q0,q1,q2,q3,q4]) rfl ⟨by rw[HX.out],?_⟩;exact B6 HB0.out (Nat.le_refl _) _ _ _ _ _
   ·have e15:(c==15)=false:=A8 (by omega);have e137:(c==137)=false:=A8 (by omega);have e139:(c==139)=false:=A8 (by omega);have e136:(c==136)=false:=A8 (by omega);have dt:decide (0≤t)=false:=decide_eq_false (by omega);have da:decide (184≤c)=true:=decide_eq_true (by omega);have db:decide (c≤191)=true:=decide_eq_true (by omega);have C6:Hid (Calls prog 104 #[v,.int .i64 ((a:Int)+1),.int .i64 4] W0 fun e w'=>e= .returned (.tuple #[.int .i64 (nmR l (a+1) 4),.bool (nuB l (a+1) 4)])∧W0=w'):=C5.out (a+1) 4 (by decide) (by omega);have HX:Hid (X=⟨1,c-184,0,32,nmR l (a+1) 4⟩):=hid (by rw[HE2.out,if_neg (by omega),if_neg (by omega),if_neg (by omega),if_neg (by omega),if_neg (by omega),if_pos (by omega)];rfl);generalize nmR l (a+1) 4=u at*
    generalize nuB l (a+1) 4=bu at*
    go_wp2_with((with_reducible first|refine(C6.out).mono ?_|refine(CT.out).mono ?_);rintro e w' ⟨rfl,rfl⟩)
    refine bodyPost_ret (v:=D5 ⟨1,c-184,0,32,u⟩) (by simp[results,results83,go_sem,D5,rF,mF,q0,q1,q2,q3,q4]) rfl ⟨by rw[HX.out],?_⟩;exact B6 HB0.out (Nat.le_refl _) _ _ _ _ _
  by_cases h6:c=131
  ·rcases HZ.out with rfl|rfl
   ·have e15:(c==15)=false:=A8 (by omega);have e137:(c==137)=false:=A8 (by omega);have e139:(c==139)=false:=A8 (by omega);have e136:(c==136)=false:=A8 (by omega);have e131:(c==131)=true:=eqT (by omega);have dt:decide (0≤t)=false:=decide_eq_false (by omega);have da:decide (184≤c)=false:=decide_eq_false (by omega);have C6:Hid (Calls prog 104 #[v,.int .i64 ((a:Int)+2),.int .i64 1] W0 fun e w'=>e= .returned (.tuple #[.int .i64 (nmR l (a+2) 1),.bool (nuB l (a+2) 1)])∧W0=w'):=C5.out (a+2) 1 (by decide) (by omega);have CD:Hid (Calls prog 108 #[.int .i64 14,.int .i64 19,.int .i64 (m / 8%8)] W0 fun e w'=>e= .returned (.int .i64 (B7 131 (m / 8%8)))∧W0=w'):=hid (L1 14 19 131 _ W0 (by unfold DigR;omega));obtain⟨gi,hgi⟩:∃gi,B7 131 (m / 8%8)=gi:=⟨_,rfl⟩
    rw[hgi]at CD;have kk:=P2 HBY.out (a+2);have S4:=hid (E3 (nmR l (a+2) 1) 8 W0 (by unfold I64;omega) (by omega) (by decide));have HX:Hid (X=⟨gi,mF m,0,16,sgB (nmR l (a+2) 1) 8%65536⟩):=hid (by rw[HE2.out,if_neg (by omega),if_neg (by omega),if_neg (by omega),if_neg (by omega),if_neg (by omega),if_neg (by omega),if_pos (by omega),←hgi];rfl);clear hgi;have han:bits .and .i64 (sgB (nmR l (a+2) 1) 8) 65535=sgB (nmR l (a+2) 1) 8%65536:=L6 _ _ 16 (by decide) rfl;generalize sgB (nmR l (a+2) 1) 8=s8 at*
    generalize nmR l (a+2) 1=u at*
    generalize nuB l (a+2) 1=bu at*
    clear h6;go_wp2_with((with_reducible first|refine(C6.out).mono ?_|refine(CD.out).mono ?_|refine(S4.out).mono ?_|refine(CT.out).mono ?_);rintro e w' ⟨rfl,rfl⟩)
    refine bodyPost_ret (v:=D5 ⟨gi,mF m,0,16,s8%65536⟩) (by simp[results,results83,go_sem,D5,rF,mF,q0,q1,q2,q3,q4]) rfl ⟨by rw[HX.out],?_⟩;exact B6 HB0.out (Nat.le_refl _) _ _ _ _ _
   ·have e15:(c==15)=false:=A8 (by omega);have e137:(c==137)=false:=A8 (by omega);have e139:(c==139)=false:=A8 (by omega);have e136:(c==136)=false:=A8 (by omega);have e131:(c==131)=true:=eqT (by omega);have dt:decide (0≤t)=false:=decide_eq_false (by omega);have da:decide (184≤c)=false:=decide_eq_false (by omega);have C6:Hid (Calls prog 104 #[v,.int .i64 ((a:Int)+2),.int .i64 1] W0 fun e w'=>e= .returned (.tuple #[.int .i64 (nmR l (a+2) 1),.bool (nuB l (a+2) 1)])∧W0=w'):=C5.out (a+2) 1 (by decide) (by omega);have CD:Hid (Calls prog 108 #[.int .i64 14,.int .i64 19,.int .i64 (m / 8%8)] W0 fun e w'=>e= .returned (.int .i64 (B7 131 (m / 8%8)))∧W0=w'):=hid (L1 14 19 131 _ W0 (by unfold DigR;omega));obtain⟨gi,hgi⟩:∃gi,B7 131 (m / 8%8)=gi:=⟨_,rfl⟩
    rw[hgi]at CD;have kk:=P2 HBY.out (a+2);have S4:=hid (E3 (nmR l (a+2) 1) 8 W0 (by unfold I64;omega) (by omega) (by decide));have HX:Hid (X=⟨gi,mF m,0,32,sgB (nmR l (a+2) 1) 8%4294967296⟩):=hid (by rw[HE2.out,if_neg (by omega),if_neg (by omega),if_neg (by omega),if_neg (by omega),if_neg (by omega),if_neg (by omega),if_pos (by omega),←hgi];rfl);clear hgi;have han:bits .and .i64 (sgB (nmR l (a+2) 1) 8) 4294967295=sgB (nmR l (a+2) 1) 8%4294967296:=L6 _ _ 32 (by decide) rfl;generalize sgB (nmR l (a+2) 1) 8=s8 at*
    generalize nmR l (a+2) 1=u at*
    generalize nuB l (a+2) 1=bu at*
    clear h6;go_wp2_with((with_reducible first|refine(C6.out).mono ?_|refine(CD.out).mono ?_|refine(S4.out).mono ?_|refine(CT.out).mono ?_);rintro e w' ⟨rfl,rfl⟩)
    refine bodyPost_ret (v:=D5 ⟨gi,mF m,0,32,s8%4294967296⟩) (by simp[results,results83,go_sem,D5,rF,mF,q0,q1,q2,q3,q4]) rfl ⟨by rw[HX.out],?_⟩;exact B6 HB0.out (Nat.le_refl _) _ _ _ _ _
  by_cases h7:c=129
  ·rcases HZ.out with rfl|rfl
   ·have e15:(c==15)=false:=A8 (by omega);have e137:(c==137)=false:=A8 (by omega);have e139:(c==139)=false:=A8 (by omega);have e136:(c==136)=false:=A8 (by omega);have e131:(c==131)=false:=A8 (by omega);have e129:(c==129)=true:=eqT (by omega);have dt:decide (0≤t)=false:=decide_eq_false (by omega);have da:decide (184≤c)=false:=decide_eq_false (by omega);have C6:Hid (Calls prog 104 #[v,.int .i64 ((a:Int)+2),.int .i64 2] W0 fun e w'=>e= .returned (.tuple #[.int .i64 (nmR l (a+2) 2),.bool (nuB l (a+2) 2)])∧W0=w'):=C5.out (a+2) 2 (by decide) (by omega);have CD:Hid (Calls prog 108 #[.int .i64 14,.int .i64 19,.int .i64 (m / 8%8)] W0 fun e w'=>e= .returned (.int .i64 (B7 129 (m / 8%8)))∧W0=w'):=hid (L1 14 19 129 _ W0 (by unfold DigR;omega));obtain⟨gi,hgi⟩:∃gi,B7 129 (m / 8%8)=gi:=⟨_,rfl⟩
    rw[hgi]at CD;have HX:Hid (X=⟨gi,mF m,0,16,nmR l (a+2) 2⟩):=hid (by rw[HE2.out,if_neg (by omega),if_neg (by omega),if_neg (by omega),if_neg (by omega),if_neg (by omega),if_neg (by omega),if_neg (by omega),if_pos (by omega),←hgi];rfl);clear hgi;generalize nmR l (a+2) 2=u at*
    generalize nuB l (a+2) 2=bu at*
    clear h7;go_wp2_with((with_reducible first|refine(C6.out).mono ?_|refine(CD.out).mono ?_|refine(CT.out).mono ?_);rintro e w' ⟨rfl,rfl⟩)
    refine bodyPost_ret (v:=D5 ⟨gi,mF m,0,16,u⟩) (by simp[results,results83,go_sem,D5,rF,mF,q0,q1,q2,q3,q4]) rfl ⟨by rw[HX.out],?_⟩;exact B6 HB0.out (Nat.le_refl _) _ _ _ _ _
   ·have e15:(c==15)=false:=A8 (by omega);have e137:(c==137)=false:=A8 (by omega);have e139:(c==139)=false:=A8 (by omega);have e136:(c==136)=false:=A8 (by omega);have e131:(c==131)=false:=A8 (by omega);have e129:(c==129)=true:=eqT (by omega);have dt:decide (0≤t)=false:=decide_eq_false (by omega);have da:decide (184≤c)=false:=decide_eq_false (by omega);have C6:Hid (Calls prog 104 #[v,.int .i64 ((a:Int)+2),.int .i64 4] W0 fun e w'=>e= .returned (.tuple #[.int .i64 (nmR l (a+2) 4),.bool (nuB l (a+2) 4)])∧W0=w'):=C5.out (a+2) 4 (by decide) (by omega);have CD:Hid (Calls prog 108 #[.int .i64 14,.int .i64 19,.int .i64 (m / 8%8)] W0 fun e w'=>e= .returned (.int .i64 (B7 129 (m / 8%8)))∧W0=w'):=hid (L1 14 19 129 _ W0 (by unfold DigR;omega));obtain⟨gi,hgi⟩:∃gi,B7 129 (m / 8%8)=gi:=⟨_,rfl⟩
    rw[hgi]at CD;have HX:Hid (X=⟨gi,mF m,0,32,nmR l (a+2) 4⟩):=hid (by rw[HE2.out,if_neg (by omega),if_neg (by omega),if_neg (by omega),if_neg (by omega),if_neg (by omega),if_neg (by omega),if_neg (by omega),if_pos (by omega),←hgi];rfl);clear hgi;generalize nmR l (a+2) 4=u at*
    generalize nuB l (a+2) 4=bu at*
    clear h7;go_wp2_with((with_reducible first|refine(C6.out).mono ?_|refine(CD.out).mono ?_|refine(CT.out).mono ?_);rintro e w' ⟨rfl,rfl⟩)
    refine bodyPost_ret (v:=D5 ⟨gi,mF m,0,32,u⟩) (by simp[results,results83,go_sem,D5,rF,mF,q0,q1,q2,q3,q4]) rfl ⟨by rw[HX.out],?_⟩;exact B6 HB0.out (Nat.le_refl _) _ _ _ _ _
  by_cases h8:c=211
  ·have e15:(c==15)=false:=A8 (by omega);have e137:(c==137)=false:=A8 (by omega);have e139:(c==139)=false:=A8 (by omega);have e136:(c==136)=false:=A8 (by omega);have e131:(c==131)=false:=A8 (by omega);have e129:(c==129)=false:=A8 (by omega);have e211:(c==211)=true:=eqT (by omega);have dt:decide (0≤t)=false:=decide_eq_false (by omega);have da:decide (184≤c)=true:=decide_eq_true (by omega);have db:decide (c≤191)=false:=decide_eq_false (by omega);have CD:Hid (Calls prog 108 #[.int .i64 21,.int .i64 23,.int .i64 (m / 8%8)] W0 fun e w'=>e= .returned (.int .i64 (B7 211 (m / 8%8)))∧W0=w'):=hid (L1 21 23 211 _ W0 (by unfold DigR;omega));obtain⟨gi,hgi⟩:∃gi,B7 211 (m / 8%8)=gi:=⟨_,rfl⟩
   rw[hgi]at CD;have HX:Hid (X=⟨gi,mF m,0,z,0⟩):=hid (by rw[HE2.out,if_neg (by omega),if_neg (by omega),if_neg (by omega),if_neg (by omega),if_neg (by omega),if_neg (by omega),if_neg (by omega),if_neg (by omega),if_pos (by omega),←hgi];rfl);clear hgi;clear h8;go_wp2_with((with_reducible first|refine(CD.out).mono ?_|refine(CT.out).mono ?_);rintro e w' ⟨rfl,rfl⟩)
   refine bodyPost_ret (v:=D5 ⟨gi,mF m,0,z,0⟩) (by simp[results,results83,go_sem,D5,rF,mF,q0,q1,q2,q3,q4]) rfl ⟨by rw[HX.out],?_⟩;exact B6 HB0.out (Nat.le_refl _) _ _ _ _ _
  by_cases h9:c=247
  ·have e15:(c==15)=false:=A8 (by omega);have e137:(c==137)=false:=A8 (by omega);have e139:(c==139)=false:=A8 (by omega);have e136:(c==136)=false:=A8 (by omega);have e131:(c==131)=false:=A8 (by omega);have e129:(c==129)=false:=A8 (by omega);have e211:(c==211)=false:=A8 (by omega);have e247:(c==247)=true:=eqT (by omega);have dt:decide (0≤t)=false:=decide_eq_false (by omega);have da:decide (184≤c)=true:=decide_eq_true (by omega);have db:decide (c≤191)=false:=decide_eq_false (by omega);have CD:Hid (Calls prog 108 #[.int .i64 24,.int .i64 27,.int .i64 (m / 8%8)] W0 fun e w'=>e= .returned (.int .i64 (B7 247 (m / 8%8)))∧W0=w'):=hid (L1 24 27 247 _ W0 (by unfold DigR;omega));obtain⟨gi,hgi⟩:∃gi,B7 247 (m / 8%8)=gi:=⟨_,rfl⟩
   rw[hgi]at CD;have HX:Hid (X=⟨gi,mF m,0,z,0⟩):=hid (by rw[HE2.out,if_neg (by omega),if_neg (by omega),if_neg (by omega),if_neg (by omega),if_neg (by omega),if_neg (by omega),if_neg (by omega),if_neg (by omega),if_neg (by omega),if_pos (by omega),←hgi];rfl);clear hgi;clear h9;go_wp2_with((with_reducible first|refine(CD.out).mono ?_|refine(CT.out).mono ?_);rintro e w' ⟨rfl,rfl⟩)
   refine bodyPost_ret (v:=D5 ⟨gi,mF m,0,z,0⟩) (by simp[results,results83,go_sem,D5,rF,mF,q0,q1,q2,q3,q4]) rfl ⟨by rw[HX.out],?_⟩;exact B6 HB0.out (Nat.le_refl _) _ _ _ _ _
  by_cases h10:112≤c∧c≤127
  ·have e15:(c==15)=false:=A8 (by omega);have e137:(c==137)=false:=A8 (by omega);have e139:(c==139)=false:=A8 (by omega);have e136:(c==136)=false:=A8 (by omega);have e131:(c==131)=false:=A8 (by omega);have e129:(c==129)=false:=A8 (by omega);have e211:(c==211)=false:=A8 (by omega);have e247:(c==247)=false:=A8 (by omega);have dt:decide (0≤t)=false:=decide_eq_false (by omega);have da:decide (184≤c)=false:=decide_eq_false (by omega);have dc:decide (112≤c)=true:=decide_eq_true (by omega);have dd:decide (c≤127)=true:=decide_eq_true (by omega);have HX:Hid (X=⟨32,0,c-112,8,m2⟩):=hid (by rw[HE2.out,if_neg (by omega),if_neg (by omega),if_neg (by omega),if_neg (by omega),if_neg (by omega),if_neg (by omega),if_neg (by omega),if_neg (by omega),if_neg (by omega),if_neg (by omega),if_pos (by omega)])
   (try clear y)
   (try clear HEQ)
   go_wp2_with((with_reducible first|refine(S3.out).mono ?_|refine(CT.out).mono ?_);rintro e w' ⟨rfl,rfl⟩)
   refine bodyPost_ret (v:=D5 ⟨32,0,c-112,8,m2⟩) (by simp[results,results83,go_sem,D5,rF,mF,q0,q1,q2,q3,q4]) rfl ⟨by rw[HX.out],?_⟩;exact B6 HB0.out (Nat.le_refl _) _ _ _ _ _
  by_cases h11:c=235
  ·have e15:(c==15)=false:=A8 (by omega);have e137:(c==137)=false:=A8 (by omega);have e139:(c==139)=false:=A8 (by omega);have e136:(c==136)=false:=A8 (by omega);have e131:(c==131)=false:=A8 (by omega);have e129:(c==129)=false:=A8 (by omega);have e211:(c==211)=false:=A8 (by omega);have e247:(c==247)=false:=A8 (by omega);have e235:(c==235)=true:=eqT (by omega);have dt:decide (0≤t)=false:=decide_eq_false (by omega);have da:decide (184≤c)=true:=decide_eq_true (by omega);have db:decide (c≤191)=false:=decide_eq_false (by omega);have dc:decide (112≤c)=true:=decide_eq_true (by omega);have dd:decide (c≤127)=false:=decide_eq_false (by omega);have HX:Hid (X=⟨33,0,0,8,m2⟩):=hid (by rw[HE2.out,if_neg (by omega),if_neg (by omega),if_neg (by omega),if_neg (by omega),if_neg (by omega),if_neg (by omega),if_neg (by omega),if_neg (by omega),if_neg (by omega),if_neg (by omega),if_neg (by omega),if_pos (by omega)])
   (try clear y)
   (try clear HEQ)
   clear h11;go_wp2_with((with_reducible first|refine(S3.out).mono ?_|refine(CT.out).mono ?_);rintro e w' ⟨rfl,rfl⟩)
   refine bodyPost_ret (v:=D5 ⟨33,0,0,8,m2⟩) (by simp[results,results83,go_sem,D5,rF,mF,q0,q1,q2,q3,q4]) rfl ⟨by rw[HX.out],?_⟩;exact B6 HB0.out (Nat.le_refl _) _ _ _ _ _
  by_cases h12:c=233
  ·have e15:(c==15)=false:=A8 (by omega);have e137:(c==137)=false:=A8 (by omega);have e139:(c==139)=false:=A8 (by omega);have e136:(c==136)=false:=A8 (by omega);have e131:(c==131)=false:=A8 (by omega);have e129:(c==129)=false:=A8 (by omega);have e211:(c==211)=false:=A8 (by omega);have e247:(c==247)=false:=A8 (by omega);have e235:(c==235)=false:=A8 (by omega);have e233:(c==233)=true:=eqT (by omega);have dt:decide (0≤t)=false:=decide_eq_false (by omega);have da:decide (184≤c)=true:=decide_eq_true (by omega);have db:decide (c≤191)=false:=decide_eq_false (by omega);have dc:decide (112≤c)=true:=decide_eq_true (by omega);have dd:decide (c≤127)=false:=decide_eq_false (by omega);have HX:Hid (X=⟨33,0,0,32,g2⟩):=hid (by rw[HE2.out,if_neg (by omega),if_neg (by omega),if_neg (by omega),if_neg (by omega),if_neg (by omega),if_neg (by omega),if_neg (by omega),if_neg (by omega),if_neg (by omega),if_neg (by omega),if_neg (by omega),if_neg (by omega),if_pos (by omega)])
   (try clear y)
   (try clear HEQ)
   clear h12;go_wp2_with((with_reducible first|refine(S2.out).mono ?_|refine(CT.out).mono ?_);rintro e w' ⟨rfl,rfl⟩)
   refine bodyPost_ret (v:=D5 ⟨33,0,0,32,g2⟩) (by simp[results,results83,go_sem,D5,rF,mF,q0,q1,q2,q3,q4]) rfl ⟨by rw[HX.out],?_⟩;exact B6 HB0.out (Nat.le_refl _) _ _ _ _ _
  by_cases h13:c=153
  ·have e15:(c==15)=false:=A8 (by omega);have e137:(c==137)=false:=A8 (by omega);have e139:(c==139)=false:=A8 (by omega);have e136:(c==136)=false:=A8 (by omega);have e131:(c==131)=false:=A8 (by omega);have e129:(c==129)=false:=A8 (by omega);have e211:(c==211)=false:=A8 (by omega);have e247:(c==247)=false:=A8 (by omega);have e235:(c==235)=false:=A8 (by omega);have e233:(c==233)=false:=A8 (by omega);have e153:(c==153)=true:=eqT (by omega);have dt:decide (0≤t)=false:=decide_eq_false (by omega);have da:decide (184≤c)=false:=decide_eq_false (by omega);have dc:decide (112≤c)=true:=decide_eq_true (by omega);have dd:decide (c≤127)=false:=decide_eq_false (by omega);have HX:Hid (X=⟨28,0,0,z,0⟩):=hid (by rw[HE2.out,if_neg (by omega),if_neg (by omega),if_neg (by omega),if_neg (by omega),if_neg (by omega),if_neg (by omega),if_neg (by omega),if_neg (by omega),if_neg (by omega),if_neg (by omega),if_neg (by omega),if_neg (by omega),if_neg (by omega),if_pos (by omega)])
   (try clear y)
   (try clear HEQ)
   clear h13;go_wp2_with((with_reducible first|refine(C1.out).mono ?_|refine(C2.out).mono ?_|refine(C3.out).mono ?_|refine(C4.out).mono ?_|refine(S1.out).mono ?_|refine(CT.out).mono ?_);rintro e w' ⟨rfl,rfl⟩)
   refine bodyPost_ret (v:=D5 ⟨28,0,0,z,0⟩) (by simp[results,results83,go_sem,D5,rF,mF,q0,q1,q2,q3,q4]) rfl ⟨by rw[HX.out],?_⟩;exact B6 HB0.out (Nat.le_refl _) _ _ _ _ _
  by_cases h14:c=244
  ·have e15:(c==15)=false:=A8 (by omega);have e137:(c==137)=false:=A8 (by omega);have e139:(c==139)=false:=A8 (by omega);have e136:(c==136)=false:=A8 (by omega);have e131:(c==131)=false:=A8 (by omega);have e129:(c==129)=false:=A8 (by omega);have e211:(c==211)=false:=A8 (by omega);have e247:(c==247)=false:=A8 (by omega);have e235:(c==235)=false:=A8 (by omega);have e233:(c==233)=false:=A8 (by omega);have e153:(c==153)=false:=A8 (by omega);have e244:(c==244)=true:=eqT (by omega);have dt:decide (0≤t)=false:=decide_eq_false (by omega);have da:decide (184≤c)=true:=decide_eq_true (by omega);have db:decide (c≤191)=false:=decide_eq_false (by omega);have dc:decide (112≤c)=true:=decide_eq_true (by omega);have dd:decide (c≤127)=false:=decide_eq_false (by omega);have HX:Hid (X=⟨34,0,0,z,0⟩):=hid (by rw[HE2.out,if_neg (by omega),if_neg (by omega),if_neg (by omega),if_neg (by omega),if_neg (by omega),if_neg (by omega),if_neg (by omega),if_neg (by omega),if_neg (by omega),if_neg (by omega),if_neg (by omega),if_neg (by omega),if_neg (by omega),if_neg (by omega),if_pos (by omega)])
   (try clear y)
   (try clear HEQ)
   clear h14;go_wp2_with((with_reducible first|refine(C1.out).mono ?_|refine(C2.out).mono ?_|refine(C3.out).mono ?_|refine(C4.out).mono ?_|refine(S1.out).mono ?_|refine(CT.out).mono ?_);rintro e w' ⟨rfl,rfl⟩)
   refine bodyPost_ret (v:=D5 ⟨34,0,0,z,0⟩) (by simp[results,results83,go_sem,D5,rF,mF,q0,q1,q2,q3,q4]) rfl ⟨by rw[HX.out],?_⟩;exact B6 HB0.out (Nat.le_refl _) _ _ _ _ _
  by_cases h15:c=144
  ·have e15:(c==15)=false:=A8 (by omega);have e137:(c==137)=false:=A8 (by omega);have e139:(c==139)=false:=A8 (by omega);have e136:(c==136)=false:=A8 (by omega);have e131:(c==131)=false:=A8 (by omega);have e129:(c==129)=false:=A8 (by omega);have e211:(c==211)=false:=A8 (by omega);have e247:(c==247)=false:=A8 (by omega);have e235:(c==235)=false:=A8 (by omega);have e233:(c==233)=false:=A8 (by omega);have e153:(c==153)=false:=A8 (by omega);have e244:(c==244)=false:=A8 (by omega);have e144:(c==144)=true:=eqT (by omega);have dt:decide (0≤t)=false:=decide_eq_false (by omega);have da:decide (184≤c)=false:=decide_eq_false (by omega);have dc:decide (112≤c)=true:=decide_eq_true (by omega);have dd:decide (c≤127)=false:=decide_eq_false (by omega);have HX:Hid (X=⟨36,0,0,z,0⟩):=hid (by rw[HE2.out,if_neg (by omega),if_neg (by omega),if_neg (by omega),if_neg (by omega),if_neg (by omega),if_neg (by omega),if_neg (by omega),if_neg (by omega),if_neg (by omega),if_neg (by omega),if_neg (by omega),if_neg (by omega),if_neg (by omega),if_neg (by omega),if_neg (by omega),if_pos (by omega)])
   (try clear y)
   (try clear HEQ)
   clear h15;go_wp2_with((with_reducible first|refine(C1.out).mono ?_|refine(C2.out).mono ?_|refine(C3.out).mono ?_|refine(C4.out).mono ?_|refine(S1.out).mono ?_|refine(CT.out).mono ?_);rintro e w' ⟨rfl,rfl⟩)
   refine bodyPost_ret (v:=D5 ⟨36,0,0,z,0⟩) (by simp[results,results83,go_sem,D5,rF,mF,q0,q1,q2,q3,q4]) rfl ⟨by rw[HX.out],?_⟩;exact B6 HB0.out (Nat.le_refl _) _ _ _ _ _
  by_cases y:c<112
  ·have e15:(c==15)=false:=A8 (by omega);have e137:(c==137)=false:=A8 (by omega);have e139:(c==139)=false:=A8 (by omega);have e136:(c==136)=false:=A8 (by omega);have e131:(c==131)=false:=A8 (by omega);have e129:(c==129)=false:=A8 (by omega);have e211:(c==211)=false:=A8 (by omega);have e247:(c==247)=false:=A8 (by omega);have e235:(c==235)=false:=A8 (by omega);have e233:(c==233)=false:=A8 (by omega);have e153:(c==153)=false:=A8 (by omega);have e244:(c==244)=false:=A8 (by omega);have e144:(c==144)=false:=A8 (by omega);have dt:decide (0≤t)=false:=decide_eq_false (by omega);have da:decide (184≤c)=false:=decide_eq_false (by omega);have dc:decide (112≤c)=false:=decide_eq_false (by omega);have HX:Hid (X=⟨-1,0,0,0,0⟩):=hid (by rw[HE2.out,if_neg (by omega),if_neg (by omega),if_neg (by omega),if_neg (by omega),if_neg (by omega),if_neg (by omega),if_neg (by omega),if_neg (by omega),if_neg (by omega),if_neg (by omega),if_neg (by omega),if_neg (by omega),if_neg (by omega),if_neg (by omega),if_neg (by omega),if_neg (by omega)])
   (try clear y)
   (try clear HEQ)
   exact A8z
  by_cases y:c<184
  ·have e15:(c==15)=false:=A8 (by omega);have e137:(c==137)=false:=A8 (by omega);have e139:(c==139)=false:=A8 (by omega);have e136:(c==136)=false:=A8 (by omega);have e131:(c==131)=false:=A8 (by omega);have e129:(c==129)=false:=A8 (by omega);have e211:(c==211)=false:=A8 (by omega);have e247:(c==247)=false:=A8 (by omega);have e235:(c==235)=false:=A8 (by omega);have e233:(c==233)=false:=A8 (by omega);have e153:(c==153)=false:=A8 (by omega);have e244:(c==244)=false:=A8 (by omega);have e144:(c==144)=false:=A8 (by omega);have dt:decide (0≤t)=false:=decide_eq_false (by omega);have da:decide (184≤c)=false:=decide_eq_false (by omega);have dc:decide (112≤c)=true:=decide_eq_true (by omega);have dd:decide (c≤127)=false:=decide_eq_false (by omega);have HX:Hid (X=⟨-1,0,0,0,0⟩):=hid (by rw[HE2.out,if_neg (by omega),if_neg (by omega),if_neg (by omega),if_neg (by omega),if_neg (by omega),if_neg (by omega),if_neg (by omega),if_neg (by omega),if_neg (by omega),if_neg (by omega),if_neg (by omega),if_neg (by omega),if_neg (by omega),if_neg (by omega),if_neg (by omega),if_neg (by omega)])
   (try clear y)
   (try clear HEQ)
   exact A8z
  have e15:(c==15)=false:=A8 (by omega);have e137:(c==137)=false:=A8 (by omega);have e139:(c==139)=false:=A8 (by omega);have e136:(c==136)=false:=A8 (by omega);have e131:(c==131)=false:=A8 (by omega);have e129:(c==129)=false:=A8 (by omega);have e211:(c==211)=false:=A8 (by omega);have e247:(c==247)=false:=A8 (by omega);have e235:(c==235)=false:=A8 (by omega);have e233:(c==233)=false:=A8 (by omega);have e153:(c==153)=false:=A8 (by omega);have e244:(c==244)=false:=A8 (by omega);have e144:(c==144)=false:=A8 (by omega);have dt:decide (0≤t)=false:=decide_eq_false (by omega);have da:decide (184≤c)=true:=decide_eq_true (by omega);have db:decide (c≤191)=false:=decide_eq_false (by omega);have dc:decide (112≤c)=true:=decide_eq_true (by omega);have dd:decide (c≤127)=false:=decide_eq_false (by omega);have HX:Hid (X=⟨-1,0,0,0,0⟩):=hid (by rw[HE2.out,if_neg (by omega),if_neg (by omega),if_neg (by omega),if_neg (by omega),if_neg (by omega),if_neg (by omega),if_neg (by omega),if_neg (by omega),if_neg (by omega),if_neg (by omega),if_neg (by omega),if_neg (by omega),if_neg (by omega),if_neg (by omega),if_neg (by omega),if_neg (by omega)])
  (try clear y)
  (try clear HEQ)
  exact A8z
theorem B0q{p:Prop}(h:p:=by
 refine bodyPost_ret (v:=.tuple #[D5 ⟨0,0,0,0,0⟩,.int .i64 0,.bool false]) (by simp[results,results47,go_sem,D5,y0b,y1b,y2b,y3b,y4b]) rfl ⟨?_,?_⟩
 ·rw[HN0.out.1,HN0.out.2.1,HN0.out.2.2];rfl
 ·exact B6 HB6.out (Nat.le_refl _) _ _ _ _ _
 ):p:=h
theorem A6M{c:Prop}[Decidable c]{x y:Ins}(h1:I64 x.i)(h2:I64 y.i):I64 (if c then x else y).i:=by split<;>assumption
theorem A6T{l:List Int}(hby:Byt l)(a:Nat)(hal:a≤l.length)(z:Int)(hz:z=16∨z=32):I64 (gsR (l.drop a) z).i:=by
 have i0:I64 0:=by unfold I64;omega
 have i3:∀n k,k≤4→I64 (nmR l n k):=fun n k hk=>by have:=Z7 hby n k hk;unfold I64;omega
 have i1:∀n,I64 (D8 (nmR l n 4)):=fun n=>by have:=Z7 hby n 4 (by decide);unfold D8 I64;split<;>omega
 have i2:∀n,I64 (sg8 (nmR l n 1)):=fun n=>by have:=P2 hby n;unfold sg8 I64;split<;>omega
 have i4:∀n,I64 (nmR l n (z / 8).toNat):=fun n=>i3 n _ (by rcases hz with rfl|rfl<;>decide)
 have i5:∀n,I64 (sg8 (nmR l n 1)%pwZ z):=fun n=>by
  generalize sg8 (nmR l n 1)=q;rcases hz with rfl|rfl
  ·show I64 (q%65536);unfold I64;omega
  ·show I64 (q%4294967296);unfold I64;omega
 have i6:∀n,I64 (nmR l n 1-64):=fun n=>by have:=P2 hby n;unfold I64;omega
 unfold gsR O2;simp only[A1f _ _ _ _ hal]
 repeat' refine A6M ?_ ?_
 all_goals first|exact i0|exact i1 _|exact i2 _|exact i4 _|exact i5 _|exact i6 _|exact i3 _ 1 (by decide)|exact i3 _ 4 (by decide)
set_option maxHeartbeats 4000000 in
theorem A0l(l:List Int)(v:Value)(w:World)(hv:Ints .u8 w v l)(hby:Byt l):Calls prog 47 #[v] w fun e w'=>e= .returned (.tuple #[D5 (N2 l),.int .i64 (R9 l),.bool (Q3 l)])∧Below w.heap.size w w':=by
 obtain⟨W0,hW0⟩:∃W,w.alloc (.cells #[.int .i64 0,.int .i64 0,.int .i64 0,.int .i64 0,.int .i64 0] 61)=W:=⟨_,rfl⟩
 have hb0:Below w.heap.size w W0:=by rw[←hW0];exact(Below.refl _ _).alloc (Nat.le_refl _) _
 have hbx:Box5 W0 w.heap.size 0 0 0 0 0:=by rw[←hW0];exact Box5.new w 0 0 0 0 0
 have hv0:=hv.stays hb0;have HV0:=hid hv0;obtain⟨va,vc,rfl,hl1,hl2⟩:=hv.shape;obtain⟨p,hp⟩:∃p,(l.getD 0 0==102)=p:=⟨_,rfl⟩
 have hpre:N1 l=(if p then 1 else 0):=by rw[←hp];unfold N1;by_cases h:l.getD 0 0=102<;>simp[h]
 have hsiz:O1 l=(if p then 16 else 32):=by rw[←hp];unfold O1;by_cases h:l.getD 0 0=102<;>simp[h]
 have hp0:p=true→0<l.length:=fun h=>by
  rcases l with _|⟨a,r⟩
  ·rw[h]at hp;simp at hp
  ·simp
 have hpl:N1 l≤1∧N1 l≤l.length:=by
  rw[hpre];cases p
  ·exact⟨by decide,Nat.zero_le _⟩
  ·exact⟨by decide,hp0 rfl⟩
 obtain⟨x,hx⟩:∃x,gsR (l.drop (N1 l)) (O1 l)=x:=⟨_,rfl⟩
 have hi:I64 x.i:=by rw[←hx];exact A6T hby _ hpl.2 _ (j5 l)
 have hdec:S5 l=if okI x=true∧H7 x<+:l then some (x,(H7 x).length)else none:=by
  rw[←A7G];unfold A2E;rw[hx]
 have CG:Hid (Calls prog 83 #[.slice va l.length vc,.int .i64 (if p then 1 else 0),.int .i64 (if p then 16 else 32)] W0 fun e w'=>e= .returned (D5 x)∧Below W0.heap.size W0 w'):=by
  have:=A1l l _ (N1 l) (O1 l) W0 hv0 hby hpl.1 hpl.2 (j5 l);rw[hx,hpre,hsiz]at this;have e:(((if p=true then 1 else 0:Nat):Int))=(if p=true then 1 else 0):=by cases p<;>rfl
  rw[e]at this;exact this
 have HB0:=hid hb0;have HD:=hid hdec;have HI:=hid hi;have HP0:=hid hp0;obtain⟨⟨q0,q1,q2,q3,q4⟩,qf⟩:=hbx.cells;have f0:=qf 0;have f1:=qf 1;have f2:=qf 2;have f3:=qf 3;have f4:=qf 4;have hlt0:=hbx.lt;clear hv hv0 hby hb0 hbx qf hpre hsiz hpl hx hi hdec hp0;go_enter func47,ntmps47;go_upto_region 2 with fail
 go_cut[18]from 10 to 18 (fun b wx=>b= .bool p∧W0=wx)
 case first=>
  cases p
  ·by_cases h0:0<l.length
   ·have d0:decide (0<l.length)=true:=decide_eq_true h0;obtain⟨b,q,c,e',h5,h6,h7⟩:=HV0.out.at h0;exact A5x
   ·have d0:decide (0<l.length)=false:=decide_eq_false h0;go_wp2_with fail
    go_meet
    case rel=>exact⟨rfl,rfl⟩
  ·have h0:=HP0.out rfl;have d0:decide (0<l.length)=true:=decide_eq_true h0;obtain⟨b,q,c,e',h5,h6,h7⟩:=HV0.out.at h0;exact A5x
 case rest=>
  obtain⟨rfl,rfl⟩:=hcut;clear hp
  go_upto_if 18 with fail
  go_cut[5,6]from 18 to 18 (fun a s wx=>a= .int .i64 (if p then 1 else 0)∧s= .int .i64 (if p then 16 else 32)∧W0=wx)
  case first=>
   cases p
   ·go_wp2_with fail
    go_meet
    case rel=>exact⟨rfl,rfl,rfl⟩
   ·go_wp2_with fail
    go_meet
    case rel=>exact⟨rfl,rfl,rfl⟩
  case rest=>
   obtain⟨rfl,rfl,rfl⟩:=hcut;obtain⟨o,d,s,z,i⟩:=x;have CG2:Hid (Calls prog 83 #[.slice va l.length vc,.int .i64 (if p then 1 else 0),.int .i64 (if p then 16 else 32)] W0 fun e w'=>e= .returned (.agg #[.int .i64 o,.int .i64 d,.int .i64 s,.int .i64 z,.int .i64 i])∧Below W0.heap.size W0 w'):=CG;generalize(if p=true then(1:Int)else 0)=a1 at*
   generalize(if p=true then(16:Int)else 32)=a2 at*
   go_upto_region 5 with((with_reducible refine(CG2.out).mono ?_);rintro e w5 ⟨rfl,hb5⟩)
   obtain⟨W5,hW5⟩:∃W,w5.alloc (.cells #[.int .i64 o,.int .i64 d,.int .i64 s,.int .i64 z,.int .i64 i] 61)=W:=⟨_,rfl⟩
   have hb6:Below w5.heap.size w5 W5:=by rw[←hW5];exact(Below.refl _ _).alloc (Nat.le_refl _) _
   have hx5:Box5 W5 w5.heap.size o d s z i:=by rw[←hW5];exact Box5.new w5 o d s z i
   have hs5:Since W0 W5:=A2 hb5 hb6;rw[hW5];clear hW5 hb5 hb6 CG CG2;obtain⟨⟨x0,x1,x2,x3,x4⟩,_⟩:=hx5.cells;have hlt5:=hx5.lt;have HV5:=hid (HV0.out.stays hs5);have HB5:=hid (A2 HB0.out hs5);have y0:=hs5.cell q0;have y1:=hs5.cell q1;have y2:=hs5.cell q2;have y3:=hs5.cell q3;have y4:=hs5.cell q4;have g0:=hs5.free hlt0 f0;have g1:=hs5.free hlt0 f1;have g2:=hs5.free hlt0 f2;have g3:=hs5.free hlt0 f3;have g4:=hs5.free hlt0 f4;have hltQ:w.heap.size<W5.heap.size:=F0 y0;clear hs5 hx5 q0 q1 q2 q3 q4 f0 f1 f2 f3 f4;cases hok:okI ⟨o,d,s,z,i⟩
   ·have HN0:=hid (S9 (l:=l) (by rw[HD.out,if_neg (fun h=>by rw[hok]at h;exact absurd h.1 (by simp))]));have CE:=hid (A0j ⟨o,d,s,z,i⟩ W5 HI.out hok);have CE2:Hid (Calls prog 84 #[.agg #[.int .i64 o,.int .i64 d,.int .i64 s,.int .i64 z,.int .i64 i]] W5 fun e w'=>e= .returned (.tuple #[.slice none 0 0,.bool false])∧Below W5.heap.size W5 w'):=CE;clear hok;go_wp2_with((with_reducible refine(CE2.out).mono ?_);rintro e w6 ⟨rfl,hb6⟩;have y0b:=Since.cell hb6 y0;have y1b:=Since.cell hb6 y1;have y2b:=Since.cell hb6 y2;have y3b:=Since.cell hb6 y3;have y4b:=Since.cell hb6 y4;have g0b:=Since.free hb6 hltQ g0;have g1b:=Since.free hb6 hltQ g1;have g2b:=Since.free hb6 hltQ g2;have g3b:=Since.free hb6 hltQ g3;have g4b:=Since.free hb6 hltQ g4;have HB6:=hid (A2 HB5.out hb6);clear hb6)
    exact B0q
   ·have CE:=hid (A1X ⟨o,d,s,z,i⟩ W5 HI.out hok);have CE2:Hid (Calls prog 84 #[.agg #[.int .i64 o,.int .i64 d,.int .i64 s,.int .i64 z,.int .i64 i]] W5 fun e w'=>∃v,e= .returned (.tuple #[v,.bool true])∧RowI w' W5.heap.size 5 .u8 v (H7 ⟨o,d,s,z,i⟩)∧Below W5.heap.size W5 w'):=CE;have HLB:Hid ((H7 ⟨o,d,s,z,i⟩).length≤140737488351232):=by show _≤_;have:=(A2k hok).2;omega
    have HD2:Hid (S5 l=if H7 ⟨o,d,s,z,i⟩<+:l then some (⟨o,d,s,z,i⟩,(H7 ⟨o,d,s,z,i⟩).length)else none):=by
     show _=_
     rw[HD.out];by_cases hq:H7 ⟨o,d,s,z,i⟩<+:l
     ·rw[if_pos ⟨hok,hq⟩,if_pos hq]
     ·rw[if_neg (fun h=>hq h.2),if_neg hq]
    clear hok CE HD;generalize H7 ⟨o,d,s,z,i⟩=en at*
    have CB:Hid (∀wk v,Since W5 wk→Ints .u8 wk v en→Calls prog 85 #[.slice va l.length vc,v] wk fun e w'=>e= .returned (.bool (decide (en<+:l)))∧Dr wk w'):=fun wk v h hi=>A2H l en _ v wk (HV5.out.stays h) hi
    obtain⟨q,hq⟩:∃q,decide (en<+:l)=q:=⟨_,rfl⟩
    rw[hq]at CB;have HQ:=hid hq;clear hq;cases q
    ·have HN0:=hid (S9 (l:=l) (by rw[HD2.out,if_neg (of_decide_eq_false HQ.out)]));go_wp2_with(first|((with_reducible refine(CE2.out).mono ?_);rintro e w6 ⟨v6,rfl,hr6,hb6⟩;obtain⟨a6,c6,rfl⟩:=hr6.shape;have HR6:=hid hr6;have HS6:=hid (show Since W5 w6 from hb6);clear hr6 hb6)|((with_reducible refine(CB.out _ _ HS6.out (HR6.out.ints HLB.out)).mono ?_);rintro e w7 ⟨rfl,hd7⟩;have hb6:Since W5 w7:=Since.dr HS6.out hd7;have y0b:=Since.cell hb6 y0;have y1b:=Since.cell hb6 y1;have y2b:=Since.cell hb6 y2;have y3b:=Since.cell hb6 y3;have y4b:=Since.cell hb6 y4;have g0b:=Since.free hb6 hltQ g0;have g1b:=Since.free hb6 hltQ g1;have g2b:=Since.free hb6 hltQ g2;have g3b:=Since.free hb6 hltQ g3;have g4b:=Since.free hb6 hltQ g4;have HB6:=hid (A2 HB5.out hb6);clear hb6 hd7))
     exact B0q
    ·have HN1:=hid (S8 (l:=l) (x:=⟨o,d,s,z,i⟩) (n:=en.length) (by rw[HD2.out,if_pos (of_decide_eq_true HQ.out)]));go_wp2_with(first|((with_reducible refine(CE2.out).mono ?_);rintro e w6 ⟨v6,rfl,hr6,hb6⟩;obtain⟨a6,c6,rfl⟩:=hr6.shape;have HR6:=hid hr6;have HS6:=hid (show Since W5 w6 from hb6);clear hr6 hb6)|((with_reducible refine(CB.out _ _ HS6.out (HR6.out.ints HLB.out)).mono ?_);rintro e w7 ⟨rfl,hd7⟩;have hb6:Since W5 w7:=Since.dr HS6.out hd7;have x0b:=Since.cell hb6 x0;have x1b:=Since.cell hb6 x1;have x2b:=Since.cell hb6 x2;have x3b:=Since.cell hb6 x3;have x4b:=Since.cell hb6 x4;have y0b:=Since.cell hb6 y0;have y1b:=Since.cell hb6 y1;have y2b:=Since.cell hb6 y2;have y3b:=Since.cell hb6 y3;have y4b:=Since.cell hb6 y4;have g0b:=Since.free hb6 hltQ g0;have g1b:=Since.free hb6 hltQ g1;have g2b:=Since.free hb6 hltQ g2;have g3b:=Since.free hb6 hltQ g3;have g4b:=Since.free hb6 hltQ g4;have HB6:=hid (A2 HB5.out hb6);clear hb6 hd7))
     refine bodyPost_ret (v:=.tuple #[D5 ⟨o,d,s,z,i⟩,.int .i64 en.length,.bool true]) (by simp[results,results47,go_sem,D5,y0b,y1b,y2b,y3b,y4b]) rfl ⟨?_,?_⟩
     ·rw[HN1.out.1,HN1.out.2.1,HN1.out.2.2]
     ·exact B6 HB6.out (Nat.le_refl _) _ _ _ _ _
end Go.Proofs.YtdojafpjipcbjaaGreat
