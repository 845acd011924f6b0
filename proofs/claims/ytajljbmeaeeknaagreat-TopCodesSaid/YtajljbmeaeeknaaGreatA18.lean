/- -/
import Derived.RegionTactic
import Derived.BigRegion
import Derived.ChangeAlike
import Derived.Test.YtajljbmeaeeknaaGreatA17
open Go.Proofs.Tryz
open Go.Lib (hid)
set_option maxHeartbeats 1000000
set_option maxRecDepth 100000
namespace Go.Proofs.YtajljbmeaeeknaaGreat
open Go.RowKit
set_option linter.unusedVariables false
set_option linter.unusedSimpArgs false
theorem B4F{p:Prop}(h:p:=by
 go_enter func129,ntmps129;go_wp2_with(first|((with_reducible refine(CN.out).mono ?_);rintro e w1 ⟨rfl,S1,bS1⟩;have HS1:=hid S1;clear S1)|((with_reducible refine(CF.out _ HS1.out).mono ?_);rintro e w2 ⟨rfl,S2,bS2⟩;have HS2:=hid S2;clear S2))
 have pl:=HS2.out.x.lt;have ql:=HS2.out.q.lt;have rl:=HS2.out.r.lt;have n57:¬w.heap.size=w2.heap.size:=by omega
 have n67:¬(w.heap.size+1)=w2.heap.size:=by omega
 have nB7:w2.heap.size≠B:=by omega
 clear pl ql rl;have g0:(w2.alloc (.cells #[.int .i64 r,.int .i64 m,.bool false] 209)).cell? ⟨w2.heap.size,0,none⟩=some (.int .i64 r):=by simp[go_sem]
 have g1:(w2.alloc (.cells #[.int .i64 r,.int .i64 m,.bool false] 209)).cell? ⟨w2.heap.size,1,none⟩=some (.int .i64 m):=by simp[go_sem]
 have g2:(w2.alloc (.cells #[.int .i64 r,.int .i64 m,.bool false] 209)).cell? ⟨w2.heap.size,2,none⟩=some (.bool false):=by simp[go_sem]
 have SX:=HS2.out.alloc (.cells #[.int .i64 r,.int .i64 m,.bool false] 209);have HSW3:=hid SX;clear SX;generalize w2.alloc (.cells #[.int .i64 r,.int .i64 m,.bool false] 209)=W3 at*
 generalize w2.heap.size=b7 at*
 obtain⟨p0,p1,p2,p3,p4,pf0,pf1,pf2,pf3,pf4,q0,q1,q2,q3,q4,qf0,qf1,qf2,qf3,qf4⟩:=HSW3.out.facts
 go_region
 go_wp2_with fail
 have eP:w.heap.size≤w.heap.size:=HSW3.out.pw;have eQ:w.heap.size≤(w.heap.size+1):=HSW3.out.qw;refine bodyPost_ret (v:=(.agg #[.int .i64 30,.int .i64 r,.int .i64 m,.int .i64 z,.int .i64 0])) (by simp[results,results129,go_sem,p0,p1,p2,p3,p4,q0,q1,q2,q3,q4]) rfl ⟨rfl,Fin5.out HL.out.l HL.out.off ?_⟩
 repeat(first|with_reducible refine Fin5.drew ?_|with_reducible refine Fin5.set ?_ eP _ _|with_reducible refine Fin5.set ?_ eQ _ _)
 exact HSW3.out.fin
 ):p:=h
theorem B1d{p:Prop}(h:p:=by
 go_enter func129,ntmps129;go_wp2_with(((with_reducible refine(CN.out).mono ?_);rintro e w1 ⟨rfl,S1,bS1⟩;have HS1:=hid S1;clear S1;obtain⟨p0,p1,p2,p3,p4,pf0,pf1,pf2,pf3,pf4,q0,q1,q2,q3,q4,qf0,qf1,qf2,qf3,qf4⟩:=HS1.out.facts))
 have eP:w.heap.size≤w.heap.size:=HS1.out.pw;have eQ:w.heap.size≤(w.heap.size+1):=HS1.out.qw;refine bodyPost_ret (v:=(.agg #[.int .i64 (-1),.int .i64 0,.int .i64 0,.int .i64 z,.int .i64 0])) (by simp[results,results129,go_sem,p0,p1,p2,p3,p4,q0,q1,q2,q3,q4]) rfl ⟨rfl,Fin5.out HL.out.l HL.out.off ?_⟩
 repeat(first|with_reducible refine Fin5.drew ?_|with_reducible refine Fin5.set ?_ eP _ _|with_reducible refine Fin5.set ?_ eQ _ _)
 exact HS1.out.fin
 ):p:=h
theorem B0v(v:Value)(B n:Nat)(l:List Int)(z:Int)(w:World)(h:RdL w B v l n)(hby:Byt l)(hc:(l.getD n 0)=11):Calls prog 129 #[.pointer (some ⟨B,0,none⟩),(.agg #[.int .i64 (-1),.int .i64 0,.int .i64 0,.int .i64 z,.int .i64 0])] w fun e w'=>e= .returned (.agg #[.int .i64 35,.int .i64 0,.int .i64 0,.int .i64 z,.int .i64 0])∧RdL w' B v l (n+1)∧But B w w':=by
 have HL:=hid h;have HBY:=hid hby;have S0:=Stt.start h (-1) 0 0 z 0;have CN:=hid (S0.call (C6 v B n l _ S0.rd));have hc0:=(hby n).1;have hc1:=(hby n).2;rw[hc]at CN;clear h hby S0 hc0 hc1;go_enter func129,ntmps129;go_wp2_with(((with_reducible refine(CN.out).mono ?_);rintro e w1 ⟨rfl,S1,bS1⟩;have HS1:=hid S1;clear S1;obtain⟨p0,p1,p2,p3,p4,pf0,pf1,pf2,pf3,pf4,q0,q1,q2,q3,q4,qf0,qf1,qf2,qf3,qf4⟩:=HS1.out.facts))
 have eP:w.heap.size≤w.heap.size:=HS1.out.pw;have eQ:w.heap.size≤(w.heap.size+1):=HS1.out.qw;refine bodyPost_ret (v:=(.agg #[.int .i64 35,.int .i64 0,.int .i64 0,.int .i64 z,.int .i64 0])) (by simp[results,results129,go_sem,p0,p1,p2,p3,p4,q0,q1,q2,q3,q4]) rfl ⟨rfl,Fin5.out HL.out.l HL.out.off ?_⟩
 repeat(first|with_reducible refine Fin5.drew ?_|with_reducible refine Fin5.set ?_ eP _ _|with_reducible refine Fin5.set ?_ eQ _ _)
 exact HS1.out.fin
theorem A8Z(v:Value)(B n:Nat)(l:List Int)(z:Int)(w:World)(h:RdL w B v l n)(hby:Byt l)(hc:(l.getD n 0)=175):Calls prog 129 #[.pointer (some ⟨B,0,none⟩),(.agg #[.int .i64 (-1),.int .i64 0,.int .i64 0,.int .i64 z,.int .i64 0])] w fun e w'=>e= .returned (.agg #[.int .i64 20,.int .i64 (rF (l.getD (n+1) 0)),.int .i64 (mF (l.getD (n+1) 0)),.int .i64 z,.int .i64 0])∧RdL w' B v l (n+2)∧But B w w':=by
 have HL:=hid h;have HBY:=hid hby;have S0:=Stt.start h (-1) 0 0 z 0;have CN:=hid (S0.call (C6 v B n l _ S0.rd));have hc0:=(hby n).1;have hc1:=(hby n).2;have CF:Hid (∀W,Stt w B v l w.heap.size (w.heap.size+1) (-1) 0 0 z 0 (n+1) W→Calls prog 124 #[.pointer (some ⟨B,0,none⟩)] W fun e w'=>e= .returned (.agg #[.int .i64 (rF (l.getD (n+1) 0)),.int .i64 (mF (l.getD (n+1) 0)),.bool ((l.getD (n+1) 0) / 64==2)])∧Stt w B v l w.heap.size (w.heap.size+1) (-1) 0 0 z 0 (n+1+1) w'∧But B W w'):=hid fun W S=>S.call (E3 v B (n+1) l W S.rd (hby (n+1)).1 (hby (n+1)).2)
 generalize((l.getD (n+1) 0) / 64==2)=fb at*
 generalize rF (l.getD (n+1) 0)=r at*
 generalize mF (l.getD (n+1) 0)=m at*
 rw[hc]at CN;clear h hby S0 hc0 hc1;go_enter func129,ntmps129;go_wp2_with(first|((with_reducible refine(CN.out).mono ?_);rintro e w1 ⟨rfl,S1,bS1⟩;have HS1:=hid S1;clear S1)|((with_reducible refine(CF.out _ HS1.out).mono ?_);rintro e w2 ⟨rfl,S2,bS2⟩;have HS2:=hid S2;clear S2))
 have pl:=HS2.out.x.lt;have ql:=HS2.out.q.lt;have rl:=HS2.out.r.lt;have n57:¬w.heap.size=w2.heap.size:=by omega
 have n67:¬(w.heap.size+1)=w2.heap.size:=by omega
 have nB7:w2.heap.size≠B:=by omega
 clear pl ql rl;have g0:(w2.alloc (.cells #[.int .i64 r,.int .i64 m,.bool fb] 209)).cell? ⟨w2.heap.size,0,none⟩=some (.int .i64 r):=by simp[go_sem]
 have g1:(w2.alloc (.cells #[.int .i64 r,.int .i64 m,.bool fb] 209)).cell? ⟨w2.heap.size,1,none⟩=some (.int .i64 m):=by simp[go_sem]
 have g2:(w2.alloc (.cells #[.int .i64 r,.int .i64 m,.bool fb] 209)).cell? ⟨w2.heap.size,2,none⟩=some (.bool fb):=by simp[go_sem]
 have SX:=HS2.out.alloc (.cells #[.int .i64 r,.int .i64 m,.bool fb] 209);have HSW3:=hid SX;clear SX;generalize w2.alloc (.cells #[.int .i64 r,.int .i64 m,.bool fb] 209)=W3 at*
 generalize w2.heap.size=b7 at*
 obtain⟨p0,p1,p2,p3,p4,pf0,pf1,pf2,pf3,pf4,q0,q1,q2,q3,q4,qf0,qf1,qf2,qf3,qf4⟩:=HSW3.out.facts
 go_region
 go_wp2_with fail
 have eP:w.heap.size≤w.heap.size:=HSW3.out.pw;have eQ:w.heap.size≤(w.heap.size+1):=HSW3.out.qw;refine bodyPost_ret (v:=(.agg #[.int .i64 20,.int .i64 r,.int .i64 m,.int .i64 z,.int .i64 0])) (by simp[results,results129,go_sem,p0,p1,p2,p3,p4,q0,q1,q2,q3,q4]) rfl ⟨rfl,Fin5.out HL.out.l HL.out.off ?_⟩;exact A3E
theorem A1i(v:Value)(B n:Nat)(l:List Int)(z:Int)(w:World)(h:RdL w B v l n)(hby:Byt l)(hc:(l.getD n 0)=182)(hm:((l.getD (n+1) 0) / 64==2)=false):Calls prog 129 #[.pointer (some ⟨B,0,none⟩),(.agg #[.int .i64 (-1),.int .i64 0,.int .i64 0,.int .i64 z,.int .i64 0])] w fun e w'=>e= .returned (.agg #[.int .i64 30,.int .i64 (rF (l.getD (n+1) 0)),.int .i64 (mF (l.getD (n+1) 0)),.int .i64 z,.int .i64 0])∧RdL w' B v l (n+2)∧But B w w':=by
 have HL:=hid h;have HBY:=hid hby;have S0:=Stt.start h (-1) 0 0 z 0;have CN:=hid (S0.call (C6 v B n l _ S0.rd));have hc0:=(hby n).1;have hc1:=(hby n).2;have CF:Hid (∀W,Stt w B v l w.heap.size (w.heap.size+1) (-1) 0 0 z 0 (n+1) W→Calls prog 124 #[.pointer (some ⟨B,0,none⟩)] W fun e w'=>e= .returned (.agg #[.int .i64 (rF (l.getD (n+1) 0)),.int .i64 (mF (l.getD (n+1) 0)),.bool ((l.getD (n+1) 0) / 64==2)])∧Stt w B v l w.heap.size (w.heap.size+1) (-1) 0 0 z 0 (n+1+1) w'∧But B W w'):=hid fun W S=>S.call (E3 v B (n+1) l W S.rd (hby (n+1)).1 (hby (n+1)).2)
 rw[hm]at CF;generalize rF (l.getD (n+1) 0)=r at*
 generalize mF (l.getD (n+1) 0)=m at*
 rw[hc]at CN;clear h hby S0 hc0 hc1 hm;exact B4F
theorem A1j(v:Value)(B n:Nat)(l:List Int)(z:Int)(w:World)(h:RdL w B v l n)(hby:Byt l)(hc:(l.getD n 0)=182)(hm:((l.getD (n+1) 0) / 64==2)=true):Calls prog 129 #[.pointer (some ⟨B,0,none⟩),(.agg #[.int .i64 (-1),.int .i64 0,.int .i64 0,.int .i64 z,.int .i64 0])] w fun e w'=>e= .returned (.agg #[.int .i64 4,.int .i64 (rF (l.getD (n+1) 0)),.int .i64 (mF (l.getD (n+1) 0)),.int .i64 z,.int .i64 (G2 (rdB (l.drop (n+2)) 4))])∧RdL w' B v l (n+6)∧But B w w':=by
 have HL:=hid h;have HBY:=hid hby;have S0:=Stt.start h (-1) 0 0 z 0;have CN:=hid (S0.call (C6 v B n l _ S0.rd));have hc0:=(hby n).1;have hc1:=(hby n).2;have CF:Hid (∀W,Stt w B v l w.heap.size (w.heap.size+1) (-1) 0 0 z 0 (n+1) W→Calls prog 124 #[.pointer (some ⟨B,0,none⟩)] W fun e w'=>e= .returned (.agg #[.int .i64 (rF (l.getD (n+1) 0)),.int .i64 (mF (l.getD (n+1) 0)),.bool ((l.getD (n+1) 0) / 64==2)])∧Stt w B v l w.heap.size (w.heap.size+1) (-1) 0 0 z 0 (n+1+1) w'∧But B W w'):=hid fun W S=>S.call (E3 v B (n+1) l W S.rd (hby (n+1)).1 (hby (n+1)).2)
 rw[hm]at CF;generalize rF (l.getD (n+1) 0)=r at*
 generalize mF (l.getD (n+1) 0)=m at*
 obtain⟨k,hk⟩:∃k,G2 (rdB (l.drop (n+1+1)) 4)=k:=⟨_,rfl⟩
 have CW:Hid (∀(o d s z i:Int) (W:World),Stt w B v l w.heap.size (w.heap.size+1) o d s z i (n+1+1) W→Calls prog 128 #[.pointer (some ⟨B,0,none⟩)] W fun e w'=>e= .returned (.int .i64 k)∧Stt w B v l w.heap.size (w.heap.size+1) o d s z i (n+1+1+4) w'∧But B W w'):=hid fun o d s z i W S=>by rw[←hk];exact S.call (Q8 v B (n+1+1) l W S.rd HBY.out)
 have HK:=hid hk;clear hk;rw[hc]at CN;clear h hby S0 hc0 hc1 hm;go_enter func129,ntmps129;go_wp2_with(first|((with_reducible refine(CN.out).mono ?_);rintro e w1 ⟨rfl,S1,bS1⟩;have HS1:=hid S1;clear S1)|((with_reducible refine(CF.out _ HS1.out).mono ?_);rintro e w2 ⟨rfl,S2,bS2⟩;have HS2:=hid S2;clear S2))
 have pl:=HS2.out.x.lt;have ql:=HS2.out.q.lt;have rl:=HS2.out.r.lt;have n57:¬w.heap.size=w2.heap.size:=by omega
 have n67:¬(w.heap.size+1)=w2.heap.size:=by omega
 have nB7:w2.heap.size≠B:=by omega
 clear pl ql rl;have g0:(w2.alloc (.cells #[.int .i64 r,.int .i64 m,.bool true] 209)).cell? ⟨w2.heap.size,0,none⟩=some (.int .i64 r):=by simp[go_sem]
 have g1:(w2.alloc (.cells #[.int .i64 r,.int .i64 m,.bool true] 209)).cell? ⟨w2.heap.size,1,none⟩=some (.int .i64 m):=by simp[go_sem]
 have g2:(w2.alloc (.cells #[.int .i64 r,.int .i64 m,.bool true] 209)).cell? ⟨w2.heap.size,2,none⟩=some (.bool true):=by simp[go_sem]
 have SX:=HS2.out.alloc (.cells #[.int .i64 r,.int .i64 m,.bool true] 209);have HSW3:=hid SX;clear SX;generalize w2.alloc (.cells #[.int .i64 r,.int .i64 m,.bool true] 209)=W3 at*
 generalize w2.heap.size=b7 at*
 obtain⟨p0,p1,p2,p3,p4,pf0,pf1,pf2,pf3,pf4,q0,q1,q2,q3,q4,qf0,qf1,qf2,qf3,qf4⟩:=HSW3.out.facts
 go_region
 clear p0 p1 p2 p3 p4 pf0 pf1 pf2 pf3 pf4 q0 q1 q2 q3 q4 qf0 qf1 qf2 qf3 qf4;go_wp2_with(((go_at_call 128;with_reducible refine Calls.mono (CW.out 30 r m z 0 _ ?_) ?_);(focus ((repeat(first|with_reducible refine Stt.drew ?_|with_reducible apply Stt.set0|with_reducible apply Stt.set1|with_reducible apply Stt.set2|with_reducible apply Stt.set3|with_reducible apply Stt.set4));exact HSW3.out));rintro e w4 ⟨rfl,S4,bS4⟩;have HS4:=hid S4;clear S4;obtain⟨p0,p1,p2,p3,p4,pf0,pf1,pf2,pf3,pf4,q0,q1,q2,q3,q4,qf0,qf1,qf2,qf3,qf4⟩:=HS4.out.facts))
 have eP:w.heap.size≤w.heap.size:=HS4.out.pw;have eQ:w.heap.size≤(w.heap.size+1):=HS4.out.qw;refine bodyPost_ret (v:=(.agg #[.int .i64 4,.int .i64 r,.int .i64 m,.int .i64 z,.int .i64 k])) (by simp[results,results129,go_sem,p0,p1,p2,p3,p4,q0,q1,q2,q3,q4]) rfl ⟨congrArg (fun k=>Ending.returned (.agg #[.int .i64 4,.int .i64 r,.int .i64 m,.int .i64 z,.int .i64 k])) HK.out.symm,Fin5.out HL.out.l HL.out.off ?_⟩
 repeat(first|with_reducible refine Fin5.drew ?_|with_reducible refine Fin5.set ?_ eP _ _|with_reducible refine Fin5.set ?_ eQ _ _)
 exact HS4.out.fin
theorem A1g(v:Value)(B n:Nat)(l:List Int)(z:Int)(w:World)(h:RdL w B v l n)(hby:Byt l)(hc:(l.getD n 0)=183)(hm:((l.getD (n+1) 0) / 64==2)=false):Calls prog 129 #[.pointer (some ⟨B,0,none⟩),(.agg #[.int .i64 (-1),.int .i64 0,.int .i64 0,.int .i64 z,.int .i64 0])] w fun e w'=>e= .returned (.agg #[.int .i64 30,.int .i64 (rF (l.getD (n+1) 0)),.int .i64 (mF (l.getD (n+1) 0)),.int .i64 z,.int .i64 0])∧RdL w' B v l (n+2)∧But B w w':=by
 have HL:=hid h;have HBY:=hid hby;have S0:=Stt.start h (-1) 0 0 z 0;have CN:=hid (S0.call (C6 v B n l _ S0.rd));have hc0:=(hby n).1;have hc1:=(hby n).2;have CF:Hid (∀W,Stt w B v l w.heap.size (w.heap.size+1) (-1) 0 0 z 0 (n+1) W→Calls prog 124 #[.pointer (some ⟨B,0,none⟩)] W fun e w'=>e= .returned (.agg #[.int .i64 (rF (l.getD (n+1) 0)),.int .i64 (mF (l.getD (n+1) 0)),.bool ((l.getD (n+1) 0) / 64==2)])∧Stt w B v l w.heap.size (w.heap.size+1) (-1) 0 0 z 0 (n+1+1) w'∧But B W w'):=hid fun W S=>S.call (E3 v B (n+1) l W S.rd (hby (n+1)).1 (hby (n+1)).2)
 rw[hm]at CF;generalize rF (l.getD (n+1) 0)=r at*
 generalize mF (l.getD (n+1) 0)=m at*
 rw[hc]at CN;clear h hby S0 hc0 hc1 hm;exact B4F
theorem A1h(v:Value)(B n:Nat)(l:List Int)(z:Int)(w:World)(h:RdL w B v l n)(hby:Byt l)(hc:(l.getD n 0)=183)(hm:((l.getD (n+1) 0) / 64==2)=true):Calls prog 129 #[.pointer (some ⟨B,0,none⟩),(.agg #[.int .i64 (-1),.int .i64 0,.int .i64 0,.int .i64 z,.int .i64 0])] w fun e w'=>e= .returned (.agg #[.int .i64 5,.int .i64 (rF (l.getD (n+1) 0)),.int .i64 (mF (l.getD (n+1) 0)),.int .i64 z,.int .i64 (G2 (rdB (l.drop (n+2)) 4))])∧RdL w' B v l (n+6)∧But B w w':=by
 have HL:=hid h;have HBY:=hid hby;have S0:=Stt.start h (-1) 0 0 z 0;have CN:=hid (S0.call (C6 v B n l _ S0.rd));have hc0:=(hby n).1;have hc1:=(hby n).2;have CF:Hid (∀W,Stt w B v l w.heap.size (w.heap.size+1) (-1) 0 0 z 0 (n+1) W→Calls prog 124 #[.pointer (some ⟨B,0,none⟩)] W fun e w'=>e= .returned (.agg #[.int .i64 (rF (l.getD (n+1) 0)),.int .i64 (mF (l.getD (n+1) 0)),.bool ((l.getD (n+1) 0) / 64==2)])∧Stt w B v l w.heap.size (w.heap.size+1) (-1) 0 0 z 0 (n+1+1) w'∧But B W w'):=hid fun W S=>S.call (E3 v B (n+1) l W S.rd (hby (n+1)).1 (hby (n+1)).2)
 rw[hm]at CF;generalize rF (l.getD (n+1) 0)=r at*
 generalize mF (l.getD (n+1) 0)=m at*
 obtain⟨k,hk⟩:∃k,G2 (rdB (l.drop (n+1+1)) 4)=k:=⟨_,rfl⟩
 have CW:Hid (∀(o d s z i:Int) (W:World),Stt w B v l w.heap.size (w.heap.size+1) o d s z i (n+1+1) W→Calls prog 128 #[.pointer (some ⟨B,0,none⟩)] W fun e w'=>e= .returned (.int .i64 k)∧Stt w B v l w.heap.size (w.heap.size+1) o d s z i (n+1+1+4) w'∧But B W w'):=hid fun o d s z i W S=>by rw[←hk];exact S.call (Q8 v B (n+1+1) l W S.rd HBY.out)
 have HK:=hid hk;clear hk;rw[hc]at CN;clear h hby S0 hc0 hc1 hm;go_enter func129,ntmps129;go_wp2_with(first|((with_reducible refine(CN.out).mono ?_);rintro e w1 ⟨rfl,S1,bS1⟩;have HS1:=hid S1;clear S1)|((with_reducible refine(CF.out _ HS1.out).mono ?_);rintro e w2 ⟨rfl,S2,bS2⟩;have HS2:=hid S2;clear S2))
 have pl:=HS2.out.x.lt;have ql:=HS2.out.q.lt;have rl:=HS2.out.r.lt;have n57:¬w.heap.size=w2.heap.size:=by omega
 have n67:¬(w.heap.size+1)=w2.heap.size:=by omega
 have nB7:w2.heap.size≠B:=by omega
 clear pl ql rl;have g0:(w2.alloc (.cells #[.int .i64 r,.int .i64 m,.bool true] 209)).cell? ⟨w2.heap.size,0,none⟩=some (.int .i64 r):=by simp[go_sem]
 have g1:(w2.alloc (.cells #[.int .i64 r,.int .i64 m,.bool true] 209)).cell? ⟨w2.heap.size,1,none⟩=some (.int .i64 m):=by simp[go_sem]
 have g2:(w2.alloc (.cells #[.int .i64 r,.int .i64 m,.bool true] 209)).cell? ⟨w2.heap.size,2,none⟩=some (.bool true):=by simp[go_sem]
 have SX:=HS2.out.alloc (.cells #[.int .i64 r,.int .i64 m,.bool true] 209);have HSW3:=hid SX;clear SX;generalize w2.alloc (.cells #[.int .i64 r,.int .i64 m,.bool true] 209)=W3 at*
 generalize w2.heap.size=b7 at*
 obtain⟨p0,p1,p2,p3,p4,pf0,pf1,pf2,pf3,pf4,q0,q1,q2,q3,q4,qf0,qf1,qf2,qf3,qf4⟩:=HSW3.out.facts
 go_region
 clear p0 p1 p2 p3 p4 pf0 pf1 pf2 pf3 pf4 q0 q1 q2 q3 q4 qf0 qf1 qf2 qf3 qf4;go_wp2_with(((go_at_call 128;with_reducible refine Calls.mono (CW.out 30 r m z 0 _ ?_) ?_);(focus ((repeat(first|with_reducible refine Stt.drew ?_|with_reducible apply Stt.set0|with_reducible apply Stt.set1|with_reducible apply Stt.set2|with_reducible apply Stt.set3|with_reducible apply Stt.set4));exact HSW3.out));rintro e w4 ⟨rfl,S4,bS4⟩;have HS4:=hid S4;clear S4;obtain⟨p0,p1,p2,p3,p4,pf0,pf1,pf2,pf3,pf4,q0,q1,q2,q3,q4,qf0,qf1,qf2,qf3,qf4⟩:=HS4.out.facts))
 have eP:w.heap.size≤w.heap.size:=HS4.out.pw;have eQ:w.heap.size≤(w.heap.size+1):=HS4.out.qw;refine bodyPost_ret (v:=(.agg #[.int .i64 5,.int .i64 r,.int .i64 m,.int .i64 z,.int .i64 k])) (by simp[results,results129,go_sem,p0,p1,p2,p3,p4,q0,q1,q2,q3,q4]) rfl ⟨congrArg (fun k=>Ending.returned (.agg #[.int .i64 5,.int .i64 r,.int .i64 m,.int .i64 z,.int .i64 k])) HK.out.symm,Fin5.out HL.out.l HL.out.off ?_⟩
 repeat(first|with_reducible refine Fin5.drew ?_|with_reducible refine Fin5.set ?_ eP _ _|with_reducible refine Fin5.set ?_ eQ _ _)
 exact HS4.out.fin
theorem A6I(v:Value)(B n:Nat)(l:List Int)(z:Int)(w:World)(h:RdL w B v l n)(hby:Byt l)(hlo:64≤(l.getD n 0))(hhi:(l.getD n 0)≤79):Calls prog 129 #[.pointer (some ⟨B,0,none⟩),(.agg #[.int .i64 (-1),.int .i64 0,.int .i64 0,.int .i64 z,.int .i64 0])] w fun e w'=>e= .returned (.agg #[.int .i64 31,.int .i64 (rF (l.getD (n+1) 0)),.int .i64 (mF (l.getD (n+1) 0)),.int .i64 z,.int .i64 ((l.getD n 0)-64)])∧RdL w' B v l (n+2)∧But B w w':=by
 have HL:=hid h;have HBY:=hid hby;have S0:=Stt.start h (-1) 0 0 z 0;have CN:=hid (S0.call (C6 v B n l _ S0.rd));have hc0:=(hby n).1;have hc1:=(hby n).2;have CF:Hid (∀W,Stt w B v l w.heap.size (w.heap.size+1) (-1) 0 0 z 0 (n+1) W→Calls prog 124 #[.pointer (some ⟨B,0,none⟩)] W fun e w'=>e= .returned (.agg #[.int .i64 (rF (l.getD (n+1) 0)),.int .i64 (mF (l.getD (n+1) 0)),.bool ((l.getD (n+1) 0) / 64==2)])∧Stt w B v l w.heap.size (w.heap.size+1) (-1) 0 0 z 0 (n+1+1) w'∧But B W w'):=hid fun W S=>S.call (E3 v B (n+1) l W S.rd (hby (n+1)).1 (hby (n+1)).2)
 generalize((l.getD (n+1) 0) / 64==2)=fb at*
 generalize rF (l.getD (n+1) 0)=r at*
 generalize mF (l.getD (n+1) 0)=m at*
 clear h hby S0;generalize(l.getD n 0)=c at*
 have t1:(c==11)=false:=by simp;omega
 have t2:(c==175)=false:=by simp;omega
 have t3:(c==182)=false:=by simp;omega
 have t4:(c==183)=false:=by simp;omega
 have u0:decide (64≤c)=true:=by simp;omega
 have v0:decide (c≤79)=true:=by simp;omega
 have hs:IntKind.u8.wrap (c-64)=c-64:=by rw[IntKind.wrap_u8];omega
 go_enter func129,ntmps129;go_wp2_with(first|((with_reducible refine(CN.out).mono ?_);rintro e w1 ⟨rfl,S1,bS1⟩;have HS1:=hid S1;clear S1)|((with_reducible refine(CF.out _ HS1.out).mono ?_);rintro e w2 ⟨rfl,S2,bS2⟩;have HS2:=hid S2;clear S2))
 have pl:=HS2.out.x.lt;have ql:=HS2.out.q.lt;have rl:=HS2.out.r.lt;have n57:¬w.heap.size=w2.heap.size:=by omega
 have n67:¬(w.heap.size+1)=w2.heap.size:=by omega
 have nB7:w2.heap.size≠B:=by omega
 clear pl ql rl;have g0:(w2.alloc (.cells #[.int .i64 r,.int .i64 m,.bool fb] 209)).cell? ⟨w2.heap.size,0,none⟩=some (.int .i64 r):=by simp[go_sem]
 have g1:(w2.alloc (.cells #[.int .i64 r,.int .i64 m,.bool fb] 209)).cell? ⟨w2.heap.size,1,none⟩=some (.int .i64 m):=by simp[go_sem]
 have g2:(w2.alloc (.cells #[.int .i64 r,.int .i64 m,.bool fb] 209)).cell? ⟨w2.heap.size,2,none⟩=some (.bool fb):=by simp[go_sem]
 have SX:=HS2.out.alloc (.cells #[.int .i64 r,.int .i64 m,.bool fb] 209);have HSW3:=hid SX;clear SX;generalize w2.alloc (.cells #[.int .i64 r,.int .i64 m,.bool fb] 209)=W3 at*
 generalize w2.heap.size=b7 at*
 obtain⟨p0,p1,p2,p3,p4,pf0,pf1,pf2,pf3,pf4,q0,q1,q2,q3,q4,qf0,qf1,qf2,qf3,qf4⟩:=HSW3.out.facts
 go_region
 go_wp2_with fail
 have eP:w.heap.size≤w.heap.size:=HSW3.out.pw;have eQ:w.heap.size≤(w.heap.size+1):=HSW3.out.qw;refine bodyPost_ret (v:=(.agg #[.int .i64 31,.int .i64 r,.int .i64 m,.int .i64 z,.int .i64 (c-64)])) (by simp[results,results129,go_sem,p0,p1,p2,p3,p4,q0,q1,q2,q3,q4]) rfl ⟨rfl,Fin5.out HL.out.l HL.out.off ?_⟩;exact A3E
theorem A8X(v:Value)(B n:Nat)(l:List Int)(z:Int)(w:World)(h:RdL w B v l n)(hby:Byt l)(hlo:144≤(l.getD n 0))(hhi:(l.getD n 0)≤159):Calls prog 129 #[.pointer (some ⟨B,0,none⟩),(.agg #[.int .i64 (-1),.int .i64 0,.int .i64 0,.int .i64 z,.int .i64 0])] w fun e w'=>e= .returned (.agg #[.int .i64 29,.int .i64 (mF (l.getD (n+1) 0)),.int .i64 ((l.getD n 0)-144),.int .i64 z,.int .i64 0])∧RdL w' B v l (n+2)∧But B w w':=by
 have HL:=hid h;have HBY:=hid hby;have S0:=Stt.start h (-1) 0 0 z 0;have CN:=hid (S0.call (C6 v B n l _ S0.rd));have hc0:=(hby n).1;have hc1:=(hby n).2;have CF:Hid (∀W,Stt w B v l w.heap.size (w.heap.size+1) (-1) 0 0 z 0 (n+1) W→Calls prog 124 #[.pointer (some ⟨B,0,none⟩)] W fun e w'=>e= .returned (.agg #[.int .i64 (rF (l.getD (n+1) 0)),.int .i64 (mF (l.getD (n+1) 0)),.bool ((l.getD (n+1) 0) / 64==2)])∧Stt w B v l w.heap.size (w.heap.size+1) (-1) 0 0 z 0 (n+1+1) w'∧But B W w'):=hid fun W S=>S.call (E3 v B (n+1) l W S.rd (hby (n+1)).1 (hby (n+1)).2)
 generalize((l.getD (n+1) 0) / 64==2)=fb at*
 generalize rF (l.getD (n+1) 0)=r at*
 generalize mF (l.getD (n+1) 0)=m at*
 clear h hby S0;generalize(l.getD n 0)=c at*
 have t1:(c==11)=false:=by simp;omega
 have t2:(c==175)=false:=by simp;omega
 have t3:(c==182)=false:=by simp;omega
 have t4:(c==183)=false:=by simp;omega
 have u0:decide (64≤c)=true:=by simp;omega
 have v0:decide (c≤79)=false:=by simp;omega
 have u1:decide (144≤c)=true:=by simp;omega
 have v1:decide (c≤159)=true:=by simp;omega
 have hs:IntKind.u8.wrap (c-144)=c-144:=by rw[IntKind.wrap_u8];omega
 go_enter func129,ntmps129;go_wp2_with(first|((with_reducible refine(CN.out).mono ?_);rintro e w1 ⟨rfl,S1,bS1⟩;have HS1:=hid S1;clear S1)|((with_reducible refine(CF.out _ HS1.out).mono ?_);rintro e w2 ⟨rfl,S2,bS2⟩;have HS2:=hid S2;clear S2))
 have pl:=HS2.out.x.lt;have ql:=HS2.out.q.lt;have rl:=HS2.out.r.lt;have n57:¬w.heap.size=w2.heap.size:=by omega
 have n67:¬(w.heap.size+1)=w2.heap.size:=by omega
 have nB7:w2.heap.size≠B:=by omega
 clear pl ql rl;have g0:(w2.alloc (.cells #[.int .i64 r,.int .i64 m,.bool fb] 209)).cell? ⟨w2.heap.size,0,none⟩=some (.int .i64 r):=by simp[go_sem]
 have g1:(w2.alloc (.cells #[.int .i64 r,.int .i64 m,.bool fb] 209)).cell? ⟨w2.heap.size,1,none⟩=some (.int .i64 m):=by simp[go_sem]
 have g2:(w2.alloc (.cells #[.int .i64 r,.int .i64 m,.bool fb] 209)).cell? ⟨w2.heap.size,2,none⟩=some (.bool fb):=by simp[go_sem]
 have SX:=HS2.out.alloc (.cells #[.int .i64 r,.int .i64 m,.bool fb] 209);have HSW3:=hid SX;clear SX;generalize w2.alloc (.cells #[.int .i64 r,.int .i64 m,.bool fb] 209)=W3 at*
 generalize w2.heap.size=b7 at*
 obtain⟨p0,p1,p2,p3,p4,pf0,pf1,pf2,pf3,pf4,q0,q1,q2,q3,q4,qf0,qf1,qf2,qf3,qf4⟩:=HSW3.out.facts
 go_region
 go_wp2_with fail
 have eP:w.heap.size≤w.heap.size:=HSW3.out.pw;have eQ:w.heap.size≤(w.heap.size+1):=HSW3.out.qw;refine bodyPost_ret (v:=(.agg #[.int .i64 29,.int .i64 m,.int .i64 (c-144),.int .i64 z,.int .i64 0])) (by simp[results,results129,go_sem,p0,p1,p2,p3,p4,q0,q1,q2,q3,q4]) rfl ⟨rfl,Fin5.out HL.out.l HL.out.off ?_⟩;exact A3E
theorem A8Y(v:Value)(B n:Nat)(l:List Int)(z:Int)(w:World)(h:RdL w B v l n)(hby:Byt l)(hlo:128≤(l.getD n 0))(hhi:(l.getD n 0)≤143):Calls prog 129 #[.pointer (some ⟨B,0,none⟩),(.agg #[.int .i64 (-1),.int .i64 0,.int .i64 0,.int .i64 z,.int .i64 0])] w fun e w'=>e= .returned (.agg #[.int .i64 32,.int .i64 0,.int .i64 ((l.getD n 0)-128),.int .i64 z,.int .i64 (G2 (rdB (l.drop (n+1)) 4))])∧RdL w' B v l (n+5)∧But B w w':=by
 have HL:=hid h;have HBY:=hid hby;have S0:=Stt.start h (-1) 0 0 z 0;have CN:=hid (S0.call (C6 v B n l _ S0.rd));have hc0:=(hby n).1;have hc1:=(hby n).2;obtain⟨k,hk⟩:∃k,G2 (rdB (l.drop (n+1)) 4)=k:=⟨_,rfl⟩
 have CW:Hid (∀(o d s z i:Int) (W:World),Stt w B v l w.heap.size (w.heap.size+1) o d s z i (n+1) W→Calls prog 128 #[.pointer (some ⟨B,0,none⟩)] W fun e w'=>e= .returned (.int .i64 k)∧Stt w B v l w.heap.size (w.heap.size+1) o d s z i (n+1+4) w'∧But B W w'):=hid fun o d s z i W S=>by rw[←hk];exact S.call (Q8 v B (n+1) l W S.rd HBY.out)
 have HK:=hid hk;clear hk;clear h hby S0;generalize(l.getD n 0)=c at*
 have t1:(c==11)=false:=by simp;omega
 have t2:(c==175)=false:=by simp;omega
 have t3:(c==182)=false:=by simp;omega
 have t4:(c==183)=false:=by simp;omega
 have u0:decide (64≤c)=true:=by simp;omega
 have v0:decide (c≤79)=false:=by simp;omega
 have u1:decide (144≤c)=false:=by simp;omega
 have u2:decide (128≤c)=true:=by simp;omega
 have v2:decide (c≤143)=true:=by simp;omega
 have hs:IntKind.u8.wrap (c-128)=c-128:=by rw[IntKind.wrap_u8];omega
 go_enter func129,ntmps129;go_wp2_with(first|((with_reducible refine(CN.out).mono ?_);rintro e w1 ⟨rfl,S1,bS1⟩;have HS1:=hid S1;clear S1)|((with_reducible refine(CW.out _ _ _ _ _ _ HS1.out).mono ?_);rintro e w2 ⟨rfl,S2,bS2⟩;have HS2:=hid S2;clear S2;obtain⟨p0,p1,p2,p3,p4,pf0,pf1,pf2,pf3,pf4,q0,q1,q2,q3,q4,qf0,qf1,qf2,qf3,qf4⟩:=HS2.out.facts))
 have eP:w.heap.size≤w.heap.size:=HS2.out.pw;have eQ:w.heap.size≤(w.heap.size+1):=HS2.out.qw;refine bodyPost_ret (v:=(.agg #[.int .i64 32,.int .i64 0,.int .i64 (c-128),.int .i64 z,.int .i64 k])) (by simp[results,results129,go_sem,p0,p1,p2,p3,p4,q0,q1,q2,q3,q4]) rfl ⟨congrArg (fun k=>Ending.returned (.agg #[.int .i64 32,.int .i64 0,.int .i64 (c-128),.int .i64 z,.int .i64 k])) HK.out.symm,Fin5.out HL.out.l HL.out.off ?_⟩
 repeat(first|with_reducible refine Fin5.drew ?_|with_reducible refine Fin5.set ?_ eP _ _|with_reducible refine Fin5.set ?_ eQ _ _)
 exact HS2.out.fin
theorem A6H(v:Value)(B n:Nat)(l:List Int)(z:Int)(w:World)(h:RdL w B v l n)(hby:Byt l)(t1:((l.getD n 0)==11)=false)(t2:((l.getD n 0)==175)=false)(t3:((l.getD n 0)==182)=false)(t4:((l.getD n 0)==183)=false)(hlo:0≤(l.getD n 0))(hhi:(l.getD n 0)≤63):Calls prog 129 #[.pointer (some ⟨B,0,none⟩),(.agg #[.int .i64 (-1),.int .i64 0,.int .i64 0,.int .i64 z,.int .i64 0])] w fun e w'=>e= .returned (.agg #[.int .i64 (-1),.int .i64 0,.int .i64 0,.int .i64 z,.int .i64 0])∧RdL w' B v l (n+1)∧But B w w':=by
 have HL:=hid h;have HBY:=hid hby;have S0:=Stt.start h (-1) 0 0 z 0;have CN:=hid (S0.call (C6 v B n l _ S0.rd));have hc0:=(hby n).1;have hc1:=(hby n).2;clear h hby S0;generalize(l.getD n 0)=c at*
 have u0:decide (64≤c)=false:=by simp;omega
 have u1:decide (144≤c)=false:=by simp;omega
 have u2:decide (128≤c)=false:=by simp;omega
 exact B1d
theorem A6G(v:Value)(B n:Nat)(l:List Int)(z:Int)(w:World)(h:RdL w B v l n)(hby:Byt l)(t1:((l.getD n 0)==11)=false)(t2:((l.getD n 0)==175)=false)(t3:((l.getD n 0)==182)=false)(t4:((l.getD n 0)==183)=false)(hlo:80≤(l.getD n 0))(hhi:(l.getD n 0)≤127):Calls prog 129 #[.pointer (some ⟨B,0,none⟩),(.agg #[.int .i64 (-1),.int .i64 0,.int .i64 0,.int .i64 z,.int .i64 0])] w fun e w'=>e= .returned (.agg #[.int .i64 (-1),.int .i64 0,.int .i64 0,.int .i64 z,.int .i64 0])∧RdL w' B v l (n+1)∧But B w w':=by
 have HL:=hid h;have HBY:=hid hby;have S0:=Stt.start h (-1) 0 0 z 0;have CN:=hid (S0.call (C6 v B n l _ S0.rd));have hc0:=(hby n).1;have hc1:=(hby n).2;clear h hby S0;generalize(l.getD n 0)=c at*
 have u0:decide (64≤c)=true:=by simp;omega
 have v0:decide (c≤79)=false:=by simp;omega
 have u1:decide (144≤c)=false:=by simp;omega
 have u2:decide (128≤c)=false:=by simp;omega
 exact B1d
theorem A6F(v:Value)(B n:Nat)(l:List Int)(z:Int)(w:World)(h:RdL w B v l n)(hby:Byt l)(t1:((l.getD n 0)==11)=false)(t2:((l.getD n 0)==175)=false)(t3:((l.getD n 0)==182)=false)(t4:((l.getD n 0)==183)=false)(hlo:160≤(l.getD n 0))(hhi:(l.getD n 0)≤255):Calls prog 129 #[.pointer (some ⟨B,0,none⟩),(.agg #[.int .i64 (-1),.int .i64 0,.int .i64 0,.int .i64 z,.int .i64 0])] w fun e w'=>e= .returned (.agg #[.int .i64 (-1),.int .i64 0,.int .i64 0,.int .i64 z,.int .i64 0])∧RdL w' B v l (n+1)∧But B w w':=by
 have HL:=hid h;have HBY:=hid hby;have S0:=Stt.start h (-1) 0 0 z 0;have CN:=hid (S0.call (C6 v B n l _ S0.rd));have hc0:=(hby n).1;have hc1:=(hby n).2;clear h hby S0;generalize(l.getD n 0)=c at*
 have u0:decide (64≤c)=true:=by simp;omega
 have v0:decide (c≤79)=false:=by simp;omega
 have u1:decide (144≤c)=true:=by simp;omega
 have v1:decide (c≤159)=false:=by simp;omega
 have u2:decide (128≤c)=true:=by simp;omega
 have v2:decide (c≤143)=false:=by simp;omega
 exact B1d
end Go.Proofs.YtajljbmeaeeknaaGreat
