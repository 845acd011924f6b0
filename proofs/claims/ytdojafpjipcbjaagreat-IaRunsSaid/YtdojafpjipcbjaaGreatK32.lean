/- -/
import Derived.Test.YtdojafpjipcbjaaGreatK8
import Derived.Test.YtdojafpjipcbjaaGreatK31
open Go.Proofs.Tryz
open Go.Lib (hid)
set_option maxHeartbeats 1000000
set_option maxRecDepth 100000
namespace Go.Proofs.YtdojafpjipcbjaaGreat
open Go.RowKit
set_option linter.unusedVariables false
set_option linter.unusedSimpArgs false
theorem B1D{p:Prop}(h:p:=by
 go_upto_region 43 with((with_reducible refine(CWQ.out).mono ?_);rintro e w1 ⟨rfl,hm1,hc1⟩;have HM1:=hid hm1;have HC1:=hid hc1;clear hm1 hc1)
 have k33:=(HM1.out.tailAt 0 _ rfl).1;have g33:=(HM1.out.tailAt 0 _ rfl).2;have hM3:=HM1.out.ltM;go_wp2_with fail
 go_ret;exact RdP.ok rfl (HM1.out.setF fb0 fb1) ((HN2.out.ch.trans HC1.out).setM _ _)
 ):p:=h
def M8(o a b z:Int):Int×Int:=
 if o=7∨o=14 then(adN a b z,rsF (adN a b z) z (adO a b z))else if o=8∨o=15 then(orW a b,rsF (orW a b) z 0)
 else if o=9∨o=16∨o=13 then(anW a b,rsF (anW a b) z 0)else if o=11∨o=18 then(xoW a b,rsF (xoW a b) z 0)else(suN a b z,rsF (suN a b z) z (suO a b z))
theorem j3{o a b z:Int}(hz:z=16∨z=32)(a0:0≤a)(a1:a<pwZ z)(b0:0≤b)(b1:b<pwZ z):(0≤(M8 o a b z).1∧(M8 o a b z).1<pwZ z)∧0≤(M8 o a b z).2∧(M8 o a b z).2≤15:=by
 have hp:=N0 hz;have hl:=y8 hz a0 a1 b0 b1;have e0:=y5 a0 (show a<4294967296 by omega) b0 (show b<4294967296 by omega);have e1:=l9 a0 (show a<4294967296 by omega) b0 (show b<4294967296 by omega);have e2:=t8 a0 (show a<4294967296 by omega) b0 (show b<4294967296 by omega);unfold M8
 repeat' split
 ·exact⟨⟨Int.emod_nonneg _ (by omega),Int.emod_lt_of_pos _ (by omega)⟩,Q7 (by unfold adO;split<;>split<;>simp)⟩
 ·exact⟨⟨e0.1,hl.1⟩,Q7 (by simp)⟩
 ·exact⟨⟨e1.1,hl.2.2⟩,Q7 (by simp)⟩
 ·exact⟨⟨e2.1,hl.2.1⟩,Q7 (by simp)⟩
 ·exact⟨⟨Int.emod_nonneg _ (by omega),Int.emod_lt_of_pos _ (by omega)⟩,Q7 (by unfold suO;split<;>split<;>simp)⟩
theorem U0(o a b z:Int)(w:World)(ho:7≤o∧o≤19)(hz:z=16∨z=32)(a0:0≤a)(a1:a<pwZ z)(b0:0≤b)(b1:b<pwZ z):Calls prog 90 #[.int .i64 o,.int .i64 a,.int .i64 b,.int .i64 z] w fun e w'=>e= .returned (.tuple #[.int .i64 (M8 o a b z).1,.int .i64 (M8 o a b z).2])∧w=w':=by
 unfold M8;by_cases h1:o=7∨o=14
 ·rw[if_pos h1];exact A3q o a b z w h1 hz a0 a1 b0 b1
 rw[if_neg h1];by_cases h2:o=8∨o=15
 ·rw[if_pos h2];exact A5H o a b z w h2 hz a0 a1 b0 b1
 rw[if_neg h2];by_cases h3:o=9∨o=16∨o=13
 ·rw[if_pos h3];exact A3p o a b z w h3 hz a0 a1 b0 b1
 rw[if_neg h3];by_cases h4:o=11∨o=18
 ·rw[if_pos h4];exact A3o o a b z w h4 hz a0 a1 b0 b1
 rw[if_neg h4];exact s6 o a b z w (by omega) hz a0 a1 b0 b1
section
variable {base M : Nat} {mv : Value} {c : Mac}
theorem B3g(d s:Nat)(hd:d<32)(hs:s<32)(z i:Int)(w:World)(h:MM base M mv c w)(hz:z=16∨z=32):Calls prog 48 #[.pointer (some ⟨M,0,none⟩),.agg #[.int .i64 0,.int .i64 d,.int .i64 s,.int .i64 z,.int .i64 i]] w fun e w'=>RdP base M mv c (some (A7D d s i z c)) w e w':=by
 have hnew:=RC.new h 0 (d:Int) (s:Int) z i;obtain⟨W0,hW0⟩:∃W,w.alloc (.cells #[.int .i64 0,.int .i64 (d:Int),.int .i64 (s:Int),.int .i64 z,.int .i64 i] 61)=W:=⟨_,rfl⟩
 rw[hW0]at hnew;have rd:=(hnew.m.reg hd).1;have fd:=(hnew.m.reg hd).2;have rs:=(hnew.m.reg hs).1;obtain⟨y0,y1⟩:=h.rb d;obtain⟨v0,v1⟩:=h.rb s;obtain⟨g0,g1⟩:=h.fb;obtain⟨⟨x0,x1,x2,x3,x4⟩,xf⟩:=hnew.b.cells;have hBl:=hnew.b.lt;have hMl:=hnew.m.ltM;have hd1:(d:Int)<32:=by omega
 have hs1:(s:Int)<32:=by omega
 have HN:=hid hnew;clear hnew;have hpw:=N0 hz;have hp0:0≤c.r.getD s 0%pwZ z:=Int.emod_nonneg _ (by omega);have hp1:c.r.getD s 0%pwZ z<pwZ z:=Int.emod_lt_of_pos _ (by omega);have CP:=hid (fun wk=>F9 (c.r.getD s 0) z wk (by omega) v0 v1);have CWR:=hid (fun k=>G2 d hd (c.r.getD s 0%pwZ z) z (W0.drewN k) (HN.out.drewN k).m (by omega) hp0 hp1);have HQ:=hid (R7 (r:=c.r.getD d 0) hp0 hp1);unfold A7D;rw[←HQ.out];generalize c.r.getD s 0%pwZ z=p at*
 generalize c.r.getD d 0=rdv at*
 generalize c.r.getD s 0=rsv at*
 clear HQ;go_enter func48,ntmps48;go_upto_region 5 with fail
 refine B4 13 (by kernel_rfl) (by kernel_rfl) ?_;dsimp only[List.take,List.drop]
 repeat(quiet_step ((go_at_call 87;with_reducible exact B8 (CP.out _))))
 refine wpQuiet_nil ?_;intro _ hw';obtain⟨k3,hw''⟩:=hw';subst hw'';go_wp2_with((with_reducible refine(CWR.out _).mono ?_);rintro e w1 ⟨rfl,hm1,hc1⟩;have HM1:=hid hm1;have HC1:=hid hc1;clear hm1 hc1)
 go_ret;exact RdP.ok rfl HM1.out (HN.out.ch.trans (((Ch.refl _ _ _ _).drewN _).trans HC1.out))
theorem B3f(d s:Nat)(hd:d<32)(hs:s<32)(z i:Int)(w:World)(h:MM base M mv c w)(hz:z=16∨z=32)(i0:0≤i)(i1:i<pwZ z):Calls prog 48 #[.pointer (some ⟨M,0,none⟩),.agg #[.int .i64 1,.int .i64 d,.int .i64 s,.int .i64 z,.int .i64 i]] w fun e w'=>RdP base M mv c (some (A7C d s i z c)) w e w':=by
 have hnew:=RC.new h 1 (d:Int) (s:Int) z i;obtain⟨W0,hW0⟩:∃W,w.alloc (.cells #[.int .i64 1,.int .i64 (d:Int),.int .i64 (s:Int),.int .i64 z,.int .i64 i] 61)=W:=⟨_,rfl⟩
 rw[hW0]at hnew;have rd:=(hnew.m.reg hd).1;have fd:=(hnew.m.reg hd).2;have rs:=(hnew.m.reg hs).1;obtain⟨y0,y1⟩:=h.rb d;obtain⟨v0,v1⟩:=h.rb s;obtain⟨g0,g1⟩:=h.fb;obtain⟨⟨x0,x1,x2,x3,x4⟩,xf⟩:=hnew.b.cells;have hBl:=hnew.b.lt;have hMl:=hnew.m.ltM;have hd1:(d:Int)<32:=by omega
 have hs1:(s:Int)<32:=by omega
 have HN:=hid hnew;clear hnew;have hpw:=N0 hz;have CWR:=hid (G2 d hd i z W0 HN.out.m (by omega) i0 i1);have HQ:=hid (R7 (r:=c.r.getD d 0) i0 i1);unfold A7C;rw[Int.emod_eq_of_lt i0 (show i<4294967296 by omega),←HQ.out];generalize c.r.getD d 0=rdv at*
 generalize c.r.getD s 0=rsv at*
 clear HQ;go_enter func48,ntmps48;go_wp2_with((with_reducible refine(CWR.out).mono ?_);rintro e w1 ⟨rfl,hm1,hc1⟩;have HM1:=hid hm1;have HC1:=hid hc1;clear hm1 hc1)
 go_ret;exact RdP.ok rfl HM1.out (HN.out.ch.trans HC1.out)
theorem B2p(o:Int)(d s:Nat)(hd:d<32)(hs:s<32)(z i:Int)(w:World)(h:MM base M mv c w)(hz:z=16∨z=32)(ho:o=7∨o=8∨o=9∨o=10∨o=11):Calls prog 48 #[.pointer (some ⟨M,0,none⟩),.agg #[.int .i64 o,.int .i64 d,.int .i64 s,.int .i64 z,.int .i64 i]] w fun e w'=>RdP base M mv c (some {c with r:=c.r.set d (wrR (c.r.getD d 0) (M8 o (c.r.getD d 0%pwZ z) (c.r.getD s 0%pwZ z) z).1 z),f:=(M8 o (c.r.getD d 0%pwZ z) (c.r.getD s 0%pwZ z) z).2}) w e w':=by
 have hnew:=RC.new h o (d:Int) (s:Int) z i;obtain⟨W0,hW0⟩:∃W,w.alloc (.cells #[.int .i64 o,.int .i64 (d:Int),.int .i64 (s:Int),.int .i64 z,.int .i64 i] 61)=W:=⟨_,rfl⟩
 rw[hW0]at hnew;have rd:=(hnew.m.reg hd).1;have fd:=(hnew.m.reg hd).2;have rs:=(hnew.m.reg hs).1;obtain⟨y0,y1⟩:=h.rb d;obtain⟨v0,v1⟩:=h.rb s;obtain⟨g0,g1⟩:=h.fb;obtain⟨⟨x0,x1,x2,x3,x4⟩,xf⟩:=hnew.b.cells;have hBl:=hnew.b.lt;have hMl:=hnew.m.ltM;have hd1:(d:Int)<32:=by omega
 have hs1:(s:Int)<32:=by omega
 have HN:=hid hnew;clear hnew;have hpw:=N0 hz;have hp0:0≤c.r.getD d 0%pwZ z:=Int.emod_nonneg _ (by omega);have hp1:c.r.getD d 0%pwZ z<pwZ z:=Int.emod_lt_of_pos _ (by omega);have hq0:0≤c.r.getD s 0%pwZ z:=Int.emod_nonneg _ (by omega);have hq1:c.r.getD s 0%pwZ z<pwZ z:=Int.emod_lt_of_pos _ (by omega);have CQ:=hid (fun wk=>F9 (c.r.getD s 0) z wk (by omega) v0 v1);have CP:=hid (fun wk=>F9 (c.r.getD d 0) z wk (by omega) y0 y1);have CC:=hid (fun wk=>U0 o (c.r.getD d 0%pwZ z) (c.r.getD s 0%pwZ z) z wk (by omega) hz hp0 hp1 hq0 hq1);obtain⟨⟨n0,n1⟩,fb0,fb1⟩:=j3 (o:=o) hz hp0 hp1 hq0 hq1;have CWR:=hid (fun wk (hk:MM base M mv c wk)=>G2 d hd (M8 o (c.r.getD d 0%pwZ z) (c.r.getD s 0%pwZ z) z).1 z wk hk (by omega) n0 n1);have HQ:=hid (R7 (r:=c.r.getD d 0) n0 n1);rw[←HQ.out];generalize(M8 o (c.r.getD d 0%pwZ z) (c.r.getD s 0%pwZ z) z).1=nn at*
 generalize(M8 o (c.r.getD d 0%pwZ z) (c.r.getD s 0%pwZ z) z).2=ff at*
 generalize c.r.getD d 0%pwZ z=p at*
 generalize c.r.getD s 0%pwZ z=pq at*
 have HGD:=hid (fun wk (hk:MM base M mv c wk)=>hk.reg hd);generalize c.r.getD d 0=rdv at*
 generalize c.r.getD s 0=rsv at*
 clear HQ;rcases ho with rfl|rfl|rfl|rfl|rfl
 all_goals
  go_enter func48,ntmps48;go_upto_region 39 with fail
  go_quiet((go_at_call 87;with_reducible exact B8 (CQ.out _)))
  have HN1:=hid (HN.out.drewN nq);obtain⟨⟨a0,a1,a2,a3,a4⟩,af⟩:=HN1.out.b.cells;obtain⟨b1,bf1⟩:=HGD.out _ HN1.out.m;have hB1:=HN1.out.b.lt;have hM1:=HN1.out.m.ltM;clear x0 x1 x2 x3 x4 xf rd fd rs hBl hMl CQ HN;generalize W0.drewN nq=Wp at*
  go_upto_region 40 with fail
  go_quiet(first|(go_at_call 87;with_reducible exact B8 (CP.out _))|(go_at_call 90;with_reducible exact B8 (CC.out _)))
  have HN2:=hid (HN1.out.drewN nq);obtain⟨⟨c0,c1,c2,c3,c4⟩,cf⟩:=HN2.out.b.cells;have hB2:=HN2.out.b.lt;have hM2:=HN2.out.m.ltM;have k32:=(HN2.out.m.tailAt 0 _ rfl).1;have g32:=(HN2.out.m.tailAt 0 _ rfl).2;clear a0 a1 a2 a3 a4 af b1 bf1 hB1 hM1 HN1 CP CC HGD;have CWQ:=hid (CWR.out _ HN2.out.m);clear CWR;generalize Wp.drewN nq=Wq at*
  clear k32 g32;exact B1D
theorem B2o(o:Int)(d s:Nat)(hd:d<32)(hs:s<32)(z i:Int)(w:World)(h:MM base M mv c w)(hz:z=16∨z=32)(ho:o=12∨o=13):Calls prog 48 #[.pointer (some ⟨M,0,none⟩),.agg #[.int .i64 o,.int .i64 d,.int .i64 s,.int .i64 z,.int .i64 i]] w fun e w'=>RdP base M mv c (some {c with f:=(M8 o (c.r.getD d 0%pwZ z) (c.r.getD s 0%pwZ z) z).2}) w e w':=by
 have hnew:=RC.new h o (d:Int) (s:Int) z i;obtain⟨W0,hW0⟩:∃W,w.alloc (.cells #[.int .i64 o,.int .i64 (d:Int),.int .i64 (s:Int),.int .i64 z,.int .i64 i] 61)=W:=⟨_,rfl⟩
 rw[hW0]at hnew;have rd:=(hnew.m.reg hd).1;have fd:=(hnew.m.reg hd).2;have rs:=(hnew.m.reg hs).1;obtain⟨y0,y1⟩:=h.rb d;obtain⟨v0,v1⟩:=h.rb s;obtain⟨g0,g1⟩:=h.fb;obtain⟨⟨x0,x1,x2,x3,x4⟩,xf⟩:=hnew.b.cells;have hBl:=hnew.b.lt;have hMl:=hnew.m.ltM;have hd1:(d:Int)<32:=by omega
 have hs1:(s:Int)<32:=by omega
 have HN:=hid hnew;clear hnew;have hpw:=N0 hz;have hp0:0≤c.r.getD d 0%pwZ z:=Int.emod_nonneg _ (by omega);have hp1:c.r.getD d 0%pwZ z<pwZ z:=Int.emod_lt_of_pos _ (by omega);have hq0:0≤c.r.getD s 0%pwZ z:=Int.emod_nonneg _ (by omega);have hq1:c.r.getD s 0%pwZ z<pwZ z:=Int.emod_lt_of_pos _ (by omega);have CQ:=hid (fun wk=>F9 (c.r.getD s 0) z wk (by omega) v0 v1);have CP:=hid (fun wk=>F9 (c.r.getD d 0) z wk (by omega) y0 y1);have CC:=hid (fun wk=>U0 o (c.r.getD d 0%pwZ z) (c.r.getD s 0%pwZ z) z wk (by omega) hz hp0 hp1 hq0 hq1);obtain⟨⟨n0,n1⟩,fb0,fb1⟩:=j3 (o:=o) hz hp0 hp1 hq0 hq1;generalize(M8 o (c.r.getD d 0%pwZ z) (c.r.getD s 0%pwZ z) z).1=nn at*
 generalize(M8 o (c.r.getD d 0%pwZ z) (c.r.getD s 0%pwZ z) z).2=ff at*
 generalize c.r.getD d 0%pwZ z=p at*
 generalize c.r.getD s 0%pwZ z=pq at*
 have HGD:=hid (fun wk (hk:MM base M mv c wk)=>hk.reg hd);generalize c.r.getD d 0=rdv at*
 generalize c.r.getD s 0=rsv at*
 rcases ho with rfl|rfl
 all_goals
  go_enter func48,ntmps48;go_upto_region 39 with fail
  go_quiet((go_at_call 87;with_reducible exact B8 (CQ.out _)))
  have HN1:=hid (HN.out.drewN nq);obtain⟨⟨a0,a1,a2,a3,a4⟩,af⟩:=HN1.out.b.cells;obtain⟨b1,bf1⟩:=HGD.out _ HN1.out.m;have hB1:=HN1.out.b.lt;have hM1:=HN1.out.m.ltM;clear x0 x1 x2 x3 x4 xf rd fd rs hBl hMl CQ HN;generalize W0.drewN nq=Wp at*
  go_upto_region 40 with fail
  go_quiet(first|(go_at_call 87;with_reducible exact B8 (CP.out _))|(go_at_call 90;with_reducible exact B8 (CC.out _)))
  have HN2:=hid (HN1.out.drewN nq);obtain⟨⟨c0,c1,c2,c3,c4⟩,cf⟩:=HN2.out.b.cells;have hB2:=HN2.out.b.lt;have hM2:=HN2.out.m.ltM;have k32:=(HN2.out.m.tailAt 0 _ rfl).1;have g32:=(HN2.out.m.tailAt 0 _ rfl).2;clear a0 a1 a2 a3 a4 af b1 bf1 hB1 hM1 HN1 CP CC HGD;generalize Wp.drewN nq=Wq at*
  go_wp2_with fail
  go_ret;exact RdP.ok rfl (HN2.out.m.setF fb0 fb1) (HN2.out.ch.setM _ _)
theorem B2n(o:Int)(d s:Nat)(hd:d<32)(hs:s<32)(z i:Int)(w:World)(h:MM base M mv c w)(hz:z=16∨z=32)(ho:o=14∨o=15∨o=16∨o=17∨o=18)(i0:0≤i)(i1:i<pwZ z):Calls prog 48 #[.pointer (some ⟨M,0,none⟩),.agg #[.int .i64 o,.int .i64 d,.int .i64 s,.int .i64 z,.int .i64 i]] w fun e w'=>RdP base M mv c (some {c with r:=c.r.set d (wrR (c.r.getD d 0) (M8 o (c.r.getD d 0%pwZ z) i z).1 z),f:=(M8 o (c.r.getD d 0%pwZ z) i z).2}) w e w':=by
 have hnew:=RC.new h o (d:Int) (s:Int) z i;obtain⟨W0,hW0⟩:∃W,w.alloc (.cells #[.int .i64 o,.int .i64 (d:Int),.int .i64 (s:Int),.int .i64 z,.int .i64 i] 61)=W:=⟨_,rfl⟩
 rw[hW0]at hnew;have rd:=(hnew.m.reg hd).1;have fd:=(hnew.m.reg hd).2;have rs:=(hnew.m.reg hs).1;obtain⟨y0,y1⟩:=h.rb d;obtain⟨v0,v1⟩:=h.rb s;obtain⟨g0,g1⟩:=h.fb;obtain⟨⟨x0,x1,x2,x3,x4⟩,xf⟩:=hnew.b.cells;have hBl:=hnew.b.lt;have hMl:=hnew.m.ltM;have hd1:(d:Int)<32:=by omega
 have hs1:(s:Int)<32:=by omega
 have HN:=hid hnew;clear hnew;have hpw:=N0 hz;have hp0:0≤c.r.getD d 0%pwZ z:=Int.emod_nonneg _ (by omega);have hp1:c.r.getD d 0%pwZ z<pwZ z:=Int.emod_lt_of_pos _ (by omega);have CP:=hid (fun wk=>F9 (c.r.getD d 0) z wk (by omega) y0 y1);have CC:=hid (fun wk=>U0 o (c.r.getD d 0%pwZ z) i z wk (by omega) hz hp0 hp1 i0 i1);obtain⟨⟨n0,n1⟩,fb0,fb1⟩:=j3 (o:=o) hz hp0 hp1 i0 i1;have CWR:=hid (fun wk (hk:MM base M mv c wk)=>G2 d hd (M8 o (c.r.getD d 0%pwZ z) i z).1 z wk hk (by omega) n0 n1);have HQ:=hid (R7 (r:=c.r.getD d 0) n0 n1);rw[←HQ.out];generalize(M8 o (c.r.getD d 0%pwZ z) i z).1=nn at*
 generalize(M8 o (c.r.getD d 0%pwZ z) i z).2=ff at*
 generalize c.r.getD d 0%pwZ z=p at*
 have HGD:=hid (fun wk (hk:MM base M mv c wk)=>hk.reg hd);generalize c.r.getD d 0=rdv at*
 generalize c.r.getD s 0=rsv at*
 clear HQ;rcases ho with rfl|rfl|rfl|rfl|rfl
 all_goals
  go_enter func48,ntmps48;go_upto_region 40 with fail
  go_quiet(first|(go_at_call 87;with_reducible exact B8 (CP.out _))|(go_at_call 90;with_reducible exact B8 (CC.out _)))
  have HN2:=hid (HN.out.drewN nq);obtain⟨⟨c0,c1,c2,c3,c4⟩,cf⟩:=HN2.out.b.cells;have hB2:=HN2.out.b.lt;have hM2:=HN2.out.m.ltM;have k32:=(HN2.out.m.tailAt 0 _ rfl).1;have g32:=(HN2.out.m.tailAt 0 _ rfl).2;clear x0 x1 x2 x3 x4 xf rd fd rs hBl hMl HN CP CC HGD;have CWQ:=hid (CWR.out _ HN2.out.m);clear CWR;generalize W0.drewN nq=Wq at*
  clear k32 g32;exact B1D
theorem B2m(o:Int)(d s:Nat)(hd:d<32)(hs:s<32)(z i:Int)(w:World)(h:MM base M mv c w)(hz:z=16∨z=32)(ho:o=19)(i0:0≤i)(i1:i<pwZ z):Calls prog 48 #[.pointer (some ⟨M,0,none⟩),.agg #[.int .i64 o,.int .i64 d,.int .i64 s,.int .i64 z,.int .i64 i]] w fun e w'=>RdP base M mv c (some {c with f:=(M8 o (c.r.getD d 0%pwZ z) i z).2}) w e w':=by
 have hnew:=RC.new h o (d:Int) (s:Int) z i;obtain⟨W0,hW0⟩:∃W,w.alloc (.cells #[.int .i64 o,.int .i64 (d:Int),.int .i64 (s:Int),.int .i64 z,.int .i64 i] 61)=W:=⟨_,rfl⟩
 rw[hW0]at hnew;have rd:=(hnew.m.reg hd).1;have fd:=(hnew.m.reg hd).2;have rs:=(hnew.m.reg hs).1;obtain⟨y0,y1⟩:=h.rb d;obtain⟨v0,v1⟩:=h.rb s;obtain⟨g0,g1⟩:=h.fb;obtain⟨⟨x0,x1,x2,x3,x4⟩,xf⟩:=hnew.b.cells;have hBl:=hnew.b.lt;have hMl:=hnew.m.ltM;have hd1:(d:Int)<32:=by omega
 have hs1:(s:Int)<32:=by omega
 have HN:=hid hnew;clear hnew;have hpw:=N0 hz;have hp0:0≤c.r.getD d 0%pwZ z:=Int.emod_nonneg _ (by omega);have hp1:c.r.getD d 0%pwZ z<pwZ z:=Int.emod_lt_of_pos _ (by omega);have CP:=hid (fun wk=>F9 (c.r.getD d 0) z wk (by omega) y0 y1);have CC:=hid (fun wk=>U0 o (c.r.getD d 0%pwZ z) i z wk (by omega) hz hp0 hp1 i0 i1);obtain⟨⟨n0,n1⟩,fb0,fb1⟩:=j3 (o:=o) hz hp0 hp1 i0 i1;generalize(M8 o (c.r.getD d 0%pwZ z) i z).1=nn at*
 generalize(M8 o (c.r.getD d 0%pwZ z) i z).2=ff at*
 generalize c.r.getD d 0%pwZ z=p at*
 have HGD:=hid (fun wk (hk:MM base M mv c wk)=>hk.reg hd);generalize c.r.getD d 0=rdv at*
 generalize c.r.getD s 0=rsv at*
 subst ho
 all_goals
  go_enter func48,ntmps48;go_upto_region 40 with fail
  go_quiet(first|(go_at_call 87;with_reducible exact B8 (CP.out _))|(go_at_call 90;with_reducible exact B8 (CC.out _)))
  have HN2:=hid (HN.out.drewN nq);obtain⟨⟨c0,c1,c2,c3,c4⟩,cf⟩:=HN2.out.b.cells;have hB2:=HN2.out.b.lt;have hM2:=HN2.out.m.ltM;have k32:=(HN2.out.m.tailAt 0 _ rfl).1;have g32:=(HN2.out.m.tailAt 0 _ rfl).2;clear x0 x1 x2 x3 x4 xf rd fd rs hBl hMl HN CP CC HGD;generalize W0.drewN nq=Wq at*
  go_wp2_with fail
  go_ret;exact RdP.ok rfl (HN2.out.m.setF fb0 fb1) (HN2.out.ch.setM _ _)
end
end Go.Proofs.YtdojafpjipcbjaaGreat
namespace Go.Proofs.YtdojafpjipcbjaaGreat
open Go.RowKit
set_option linter.unusedVariables false
set_option linter.unusedSimpArgs false
theorem q5z{p:Prop}(h:p:=by
 refine tk 0 ?_;refine tk 1 ?_;refine tk 2 (hv:=fun w hSw=>A2Z _ _ rfl M 0 rfl csx _ (hrg w hSw) underlying26 rfl hszm) ?_;refine tk 3 ?_;refine tk 4 ?_;refine tk 5 ?_;refine tk 6 ?_;refine tk 7 ?_;refine rd1 8 (fun K hK=>?_)
 (go_simp;(go_at_call 88;refine(CL.out _ (hs0.m.ints)).mono ?_;rintro e w1 ⟨rfl,hb1⟩;have hs1:=hs0.below hb1))
 refine hK.out _ _ ?_ (fun hHeld=>?_)
 ·(first|exact hs1|exact hs0)
 clear hK K
 try go_frame
 refine tk 9 ?_;refine tk 10 ?_;refine tk 11 ?_;refine tk 12 ?_;refine tk 13 ?_;refine wpAnyH_done (by kernel_rfl) ?_ _;clear e2 e4 hrg hs0;have HS1:=hid hs1;clear hs1;obtain⟨⟨a0,a1,a2,a3,a4⟩,af⟩:=HS1.out.b.cells;have hB1:=HS1.out.b.lt;have hM1:=HS1.out.m.ltM;have CWQ:=hid (CWR.out _ HS1.out.m);go_wp2_with((with_reducible refine(CWQ.out).mono ?_);rintro e w1 ⟨rfl,hm1,hc1⟩;have HM1:=hid hm1;have HC1:=hid hc1;clear hm1 hc1)
 go_ret;exact RdP.ok rfl HM1.out (HS1.out.ch.trans HC1.out)
 ):p:=h
theorem A6C{p:Prop}(h:p:=by
 refine tk 0 ?_;refine tk 1 ?_;refine tk 2 (hv:=fun w hSw=>A2Z _ _ rfl M 0 rfl csx _ (hrg w hSw) underlying26 rfl hszm) ?_;refine tk 3 ?_;refine tk 4 ?_;refine tk 5 ?_;refine tk 6 ?_;refine tk 7 ?_;refine rd1 8 (fun K hK=>?_)
 (go_simp;(go_at_call 88;refine(CL.out _ (hs0.m.ints)).mono ?_;rintro e w1 ⟨rfl,hb1⟩;have hs1:=hs0.below hb1))
 refine hK.out _ _ ?_ (fun hHeld=>?_)
 ·(first|exact hs1|exact hs0)
 clear hK K
 try go_frame
 refine tk 9 ?_;refine tk 10 ?_;refine tk 11 ?_;refine tk 12 ?_;refine tk 13 ?_;refine wpAnyH_done (by kernel_rfl) ?_ _;clear e2 e4 hrg hs0;have HS1:=hid hs1;clear hs1;have hB1:=HS1.out.b.lt;have hM1:=HS1.out.m.ltM;go_wp2_with fail
 go_ret;exact RdP.bad rfl HS1.out.m rfl HS1.out.ch
 ):p:=h
theorem A8r{p:Prop}(h:p:=by
 repeat(quiet_step ((go_at_call 87;with_reducible exact B8 (CP.out _))))
 refine wpQuiet_nil ?_;intro _ hw';obtain⟨k3,hw''⟩:=hw';subst hw'';have CSQ:=hid (CS.out _ (HN.out.drewN k3).m);go_wp2_with((go_at_call 89;refine(CSQ.out).mono ?_);rintro e w1 ⟨rfl,rfl⟩)
 go_ret;exact RdP.bad rfl (HN.out.drewN k3).m rfl (HN.out.drewN k3).ch
 ):p:=h
theorem A8q{p:Prop}(h:p:=by
 repeat(quiet_step ((go_at_call 87;with_reducible exact B8 (CP.out _))))
 refine wpQuiet_nil ?_;intro _ hw';obtain⟨k3,hw''⟩:=hw';subst hw'';have CSQ:=hid (CS.out _ (HN.out.drewN k3).m);go_wp2_with((go_at_call 89;refine(CSQ.out).mono ?_);rintro e w1 ⟨rfl,hm1,hc1⟩)
 go_ret;exact RdP.ok rfl hm1 ((HN.out.drewN k3).ch.trans hc1)
 ):p:=h
theorem A2Z{P:Program}{op:Oper}{a:Act}{w:World}(ty:TypeId)(x:Operand)(ho:op.op= .load ty x)(b o:Nat)(hx:a.eval x= .pointer (some ⟨b,o,none⟩))(cs:List Value)(d:TypeDesc)(hc:w.rangeAt b o cs)(hu:P.underlying ty=some d)(hd:d.isRow=true)(hi:(P.info? ty).map (·.size)=some cs.length):(execOp a.eval op).run P w= .ok (.value (.agg cs.toArray)) w:=by
 unfold execOp;simp only[ho,hx,Instr.loadAt,Instr.sureAddr,Sem.run_bind,Sem.run_pure,Result.andThen_ok,run_loadVar_mid w b o ty cs d hc hu hd hi]
theorem y9(k:Nat):∀(n:Int),leB (n%2^(8*k)) k=leB n k:=by
 induction k with
 |zero=>intro n;rfl
 |succ k ih=>
  intro n;rw[leB,leB];have hp:(0:Int)<2^(8*k):=Int.pow_pos (by decide);have e1:(2:Int)^(8*(k+1))=256*2^(8*k):=by rw[show 8*(k+1)=8*k+8 by omega,Int.pow_add,Int.mul_comm];rfl
  have e2:n%2^(8*(k+1))%256=n%256:=by rw[e1];exact Int.emod_emod_of_dvd _ (Int.dvd_mul_right _ _)
  have e3:n%2^(8*(k+1)) / 256=n / 256%2^(8*k):=by
   rw[e1];have h1:=Int.mul_ediv_add_emod n (256*2^(8*k));have h2:n / (256*2^(8*k))=n / 256 / 2^(8*k):=by rw[Int.ediv_ediv_of_nonneg (by decide)]
   have h3:=Int.mul_ediv_add_emod (n / 256) (2^(8*k));have h5:=Int.emod_nonneg (n / 256) (show(2:Int)^(8*k)≠0 by omega);rw[h2,Int.mul_assoc]at h1;generalize n / 256 / 2^(8*k)=q at*
   generalize(2:Int)^(8*k)*q=pq at*
   omega
  rw[e2,e3,ih]
theorem A2S{m:List Int}(hm:Byt m){q k:Nat}:0≤nmR m q k∧nmR m q k<2^(8*k):=by
 by_cases h:q+k≤m.length
 ·rw[←k9 h];exact M2 (hm.part q k) k
 ·unfold nmR;rw[if_neg h];exact⟨Int.le_refl 0,Int.pow_pos (by decide)⟩
theorem I3{c:Mac}(h:c.r.length=32)(v:Value):(prog.info? 26).map (·.size)=some (A4 c v).length:=by rw[B1 h];kernel_rfl
section
variable {base M : Nat} {mv : Value} {c : Mac}
theorem A2C(d s:Nat)(hd:d<32)(hs:s<32)(z i:Int)(w:World)(h:MM base M mv c w)(hzz:z=16)(hi: -2147483648≤i∧i≤4294967295):Calls prog 48 #[.pointer (some ⟨M,0,none⟩),.agg #[.int .i64 2,.int .i64 d,.int .i64 s,.int .i64 z,.int .i64 i]] w fun e w'=>RdP base M mv c (ldM d s 2 i 16 c) w e w':=by
 have hnew:=RC.new h 2 (d:Int) (s:Int) z i;obtain⟨W0,hW0⟩:∃W,w.alloc (.cells #[.int .i64 2,.int .i64 (d:Int),.int .i64 (s:Int),.int .i64 z,.int .i64 i] 61)=W:=⟨_,rfl⟩
 rw[hW0]at hnew;have rd:=(hnew.m.reg hd).1;have fd:=(hnew.m.reg hd).2;have rs:=(hnew.m.reg hs).1;obtain⟨y0,y1⟩:=h.rb d;obtain⟨v0,v1⟩:=h.rb s;obtain⟨g0,g1⟩:=h.fb;obtain⟨⟨x0,x1,x2,x3,x4⟩,xf⟩:=hnew.b.cells;have hBl:=hnew.b.lt;have hMl:=hnew.m.ltM;have hd1:(d:Int)<32:=by omega
 have hs1:(s:Int)<32:=by omega
 have HN:=hid hnew;clear hnew;subst hzz;have hok:=h.ok;have CL:=hid (fun wk (hv:Ints .u8 wk mv c.m)=>T5 c mv s 2 i wk hok hv hs (by decide) hi);have hrg:∀wk,RC base M mv w.heap.size 2 (d:Int) (s:Int) 16 i w c wk→wk.rangeAt M 0 (A4 c mv):=fun wk hk=>hk.m.m.range
 have hszm:=I3 hok.rl mv;have e2:∀wk,RC base M mv w.heap.size 2 (d:Int) (s:Int) 16 i w c wk→wk.cell? ⟨w.heap.size,2,none⟩=some (.int .i64 (s:Int)):=fun wk hk=>hk.b.cells.1.2.2.1
 have e4:∀wk,RC base M mv w.heap.size 2 (d:Int) (s:Int) 16 i w c wk→wk.cell? ⟨w.heap.size,4,none⟩=some (.int .i64 i):=fun wk hk=>hk.b.cells.1.2.2.2.2
 have hnb:=A2S hok.mb (q:=(atM c s i).toNat) (k:=2);have hn1:nmR c.m (atM c s i).toNat 2<pwZ 16:=Int.lt_of_lt_of_le hnb.2 (by decide);have CWR:=hid (fun wk (hk:MM base M mv c wk)=>G2 d hd (nmR c.m (atM c s i).toNat 2) 16 wk hk (by decide) hnb.1 hn1);have HQ:=hid (R7 (r:=c.r.getD d 0) hnb.1 hn1);unfold ldM;by_cases hg:(atM c s i).toNat+2≤c.m.length
 ·rw[if_pos hg,k9 hg,←HQ.out];have hnu:nuB c.m (atM c s i).toNat 2=true:=decide_eq_true hg;rw[hnu]at CL;generalize nmR c.m (atM c s i).toNat 2=nn at*
  generalize(atM c s i).toNat=at' at*
  generalize c.r.getD d 0=rdv at*
  generalize c.r.getD s 0=rsv at*
  obtain⟨csx,hcsx⟩:∃l,A4 c mv=l:=⟨_,rfl⟩
  rw[hcsx]at CL hszm;simp only[hcsx]at hrg;clear HQ hnu hnb hn1 h hok hg hcsx;go_enter func48,ntmps48;go_upto_region 16 with fail
  have hs0:=HN.out.drew;refine wp_region_held_drew (S:=(RC base M mv w.heap.size 2 (d:Int) (s:Int) 16 i w c)) (by kernel_rfl) ?_ (fun hHeld=>?_)
  ·(first|exact hs1|exact hs0)
  exact q5z
 ·rw[if_neg hg];have hnu:nuB c.m (atM c s i).toNat 2=false:=decide_eq_false hg;rw[hnu]at CL;generalize nmR c.m (atM c s i).toNat 2=nn at*
  generalize(atM c s i).toNat=at' at*
  generalize c.r.getD d 0=rdv at*
  generalize c.r.getD s 0=rsv at*
  obtain⟨csx,hcsx⟩:∃l,A4 c mv=l:=⟨_,rfl⟩
  rw[hcsx]at CL hszm;simp only[hcsx]at hrg;clear HQ hnu hnb hn1 h hok hg hcsx;go_enter func48,ntmps48;go_upto_region 16 with fail
  have hs0:=HN.out.drew;refine wp_region_held_drew (S:=(RC base M mv w.heap.size 2 (d:Int) (s:Int) 16 i w c)) (by kernel_rfl) ?_ (fun hHeld=>?_)
  ·(first|exact hs1|exact hs0)
  exact A6C
theorem A2B(d s:Nat)(hd:d<32)(hs:s<32)(z i:Int)(w:World)(h:MM base M mv c w)(hzz:z=32)(hi: -2147483648≤i∧i≤4294967295):Calls prog 48 #[.pointer (some ⟨M,0,none⟩),.agg #[.int .i64 2,.int .i64 d,.int .i64 s,.int .i64 z,.int .i64 i]] w fun e w'=>RdP base M mv c (ldM d s 4 i 32 c) w e w':=by
 have hnew:=RC.new h 2 (d:Int) (s:Int) z i;obtain⟨W0,hW0⟩:∃W,w.alloc (.cells #[.int .i64 2,.int .i64 (d:Int),.int .i64 (s:Int),.int .i64 z,.int .i64 i] 61)=W:=⟨_,rfl⟩
 rw[hW0]at hnew;have rd:=(hnew.m.reg hd).1;have fd:=(hnew.m.reg hd).2;have rs:=(hnew.m.reg hs).1;obtain⟨y0,y1⟩:=h.rb d;obtain⟨v0,v1⟩:=h.rb s;obtain⟨g0,g1⟩:=h.fb;obtain⟨⟨x0,x1,x2,x3,x4⟩,xf⟩:=hnew.b.cells;have hBl:=hnew.b.lt;have hMl:=hnew.m.ltM;have hd1:(d:Int)<32:=by omega
 have hs1:(s:Int)<32:=by omega
 have HN:=hid hnew;clear hnew;subst hzz;have hok:=h.ok;have CL:=hid (fun wk (hv:Ints .u8 wk mv c.m)=>T5 c mv s 4 i wk hok hv hs (by decide) hi);have hrg:∀wk,RC base M mv w.heap.size 2 (d:Int) (s:Int) 32 i w c wk→wk.rangeAt M 0 (A4 c mv):=fun wk hk=>hk.m.m.range
 have hszm:=I3 hok.rl mv;have e2:∀wk,RC base M mv w.heap.size 2 (d:Int) (s:Int) 32 i w c wk→wk.cell? ⟨w.heap.size,2,none⟩=some (.int .i64 (s:Int)):=fun wk hk=>hk.b.cells.1.2.2.1
 have e4:∀wk,RC base M mv w.heap.size 2 (d:Int) (s:Int) 32 i w c wk→wk.cell? ⟨w.heap.size,4,none⟩=some (.int .i64 i):=fun wk hk=>hk.b.cells.1.2.2.2.2
 have hnb:=A2S hok.mb (q:=(atM c s i).toNat) (k:=4);have hn1:nmR c.m (atM c s i).toNat 4<pwZ 32:=Int.lt_of_lt_of_le hnb.2 (by decide);have CWR:=hid (fun wk (hk:MM base M mv c wk)=>G2 d hd (nmR c.m (atM c s i).toNat 4) 32 wk hk (by decide) hnb.1 hn1);have HQ:=hid (R7 (r:=c.r.getD d 0) hnb.1 hn1);unfold ldM;by_cases hg:(atM c s i).toNat+4≤c.m.length
 ·rw[if_pos hg,k9 hg,←HQ.out];have hnu:nuB c.m (atM c s i).toNat 4=true:=decide_eq_true hg;rw[hnu]at CL;generalize nmR c.m (atM c s i).toNat 4=nn at*
  generalize(atM c s i).toNat=at' at*
  generalize c.r.getD d 0=rdv at*
  generalize c.r.getD s 0=rsv at*
  obtain⟨csx,hcsx⟩:∃l,A4 c mv=l:=⟨_,rfl⟩
  rw[hcsx]at CL hszm;simp only[hcsx]at hrg;clear HQ hnu hnb hn1 h hok hg hcsx;go_enter func48,ntmps48;go_upto_region 16 with fail
  have hs0:=HN.out.drew;refine wp_region_held_drew (S:=(RC base M mv w.heap.size 2 (d:Int) (s:Int) 32 i w c)) (by kernel_rfl) ?_ (fun hHeld=>?_)
  ·(first|exact hs1|exact hs0)
  exact q5z
 ·rw[if_neg hg];have hnu:nuB c.m (atM c s i).toNat 4=false:=decide_eq_false hg;rw[hnu]at CL;generalize nmR c.m (atM c s i).toNat 4=nn at*
  generalize(atM c s i).toNat=at' at*
  generalize c.r.getD d 0=rdv at*
  generalize c.r.getD s 0=rsv at*
  obtain⟨csx,hcsx⟩:∃l,A4 c mv=l:=⟨_,rfl⟩
  rw[hcsx]at CL hszm;simp only[hcsx]at hrg;clear HQ hnu hnb hn1 h hok hg hcsx;go_enter func48,ntmps48;go_upto_region 16 with fail
  have hs0:=HN.out.drew;refine wp_region_held_drew (S:=(RC base M mv w.heap.size 2 (d:Int) (s:Int) 32 i w c)) (by kernel_rfl) ?_ (fun hHeld=>?_)
  ·(first|exact hs1|exact hs0)
  exact A6C
theorem A2A(d s:Nat)(hd:d<32)(hs:s<32)(z i:Int)(w:World)(h:MM base M mv c w)(hzz:z=32)(hi: -2147483648≤i∧i≤4294967295):Calls prog 48 #[.pointer (some ⟨M,0,none⟩),.agg #[.int .i64 4,.int .i64 d,.int .i64 s,.int .i64 z,.int .i64 i]] w fun e w'=>RdP base M mv c (ldM d s 1 i 32 c) w e w':=by
 have hnew:=RC.new h 4 (d:Int) (s:Int) z i;obtain⟨W0,hW0⟩:∃W,w.alloc (.cells #[.int .i64 4,.int .i64 (d:Int),.int .i64 (s:Int),.int .i64 z,.int .i64 i] 61)=W:=⟨_,rfl⟩
 rw[hW0]at hnew;have rd:=(hnew.m.reg hd).1;have fd:=(hnew.m.reg hd).2;have rs:=(hnew.m.reg hs).1;obtain⟨y0,y1⟩:=h.rb d;obtain⟨v0,v1⟩:=h.rb s;obtain⟨g0,g1⟩:=h.fb;obtain⟨⟨x0,x1,x2,x3,x4⟩,xf⟩:=hnew.b.cells;have hBl:=hnew.b.lt;have hMl:=hnew.m.ltM;have hd1:(d:Int)<32:=by omega
 have hs1:(s:Int)<32:=by omega
 have HN:=hid hnew;clear hnew;subst hzz;have hok:=h.ok;have CL:=hid (fun wk (hv:Ints .u8 wk mv c.m)=>T5 c mv s 1 i wk hok hv hs (by decide) hi);have hrg:∀wk,RC base M mv w.heap.size 4 (d:Int) (s:Int) 32 i w c wk→wk.rangeAt M 0 (A4 c mv):=fun wk hk=>hk.m.m.range
 have hszm:=I3 hok.rl mv;have e2:∀wk,RC base M mv w.heap.size 4 (d:Int) (s:Int) 32 i w c wk→wk.cell? ⟨w.heap.size,2,none⟩=some (.int .i64 (s:Int)):=fun wk hk=>hk.b.cells.1.2.2.1
 have e4:∀wk,RC base M mv w.heap.size 4 (d:Int) (s:Int) 32 i w c wk→wk.cell? ⟨w.heap.size,4,none⟩=some (.int .i64 i):=fun wk hk=>hk.b.cells.1.2.2.2.2
 have hnb:=A2S hok.mb (q:=(atM c s i).toNat) (k:=1);have hn1:nmR c.m (atM c s i).toNat 1<pwZ 32:=Int.lt_of_lt_of_le hnb.2 (by decide);have CWR:=hid (fun wk (hk:MM base M mv c wk)=>G2 d hd (nmR c.m (atM c s i).toNat 1) 32 wk hk (by decide) hnb.1 hn1);have HQ:=hid (R7 (r:=c.r.getD d 0) hnb.1 hn1);unfold ldM;by_cases hg:(atM c s i).toNat+1≤c.m.length
 ·rw[if_pos hg,k9 hg,←HQ.out];have hnu:nuB c.m (atM c s i).toNat 1=true:=decide_eq_true hg;rw[hnu]at CL;generalize nmR c.m (atM c s i).toNat 1=nn at*
  generalize(atM c s i).toNat=at' at*
  generalize c.r.getD d 0=rdv at*
  generalize c.r.getD s 0=rsv at*
  obtain⟨csx,hcsx⟩:∃l,A4 c mv=l:=⟨_,rfl⟩
  rw[hcsx]at CL hszm;simp only[hcsx]at hrg;clear HQ hnu hnb hn1 h hok hg hcsx;go_enter func48,ntmps48;go_upto_region 16 with fail
  have hs0:=HN.out.drew;refine wp_region_held_drew (S:=(RC base M mv w.heap.size 4 (d:Int) (s:Int) 32 i w c)) (by kernel_rfl) ?_ (fun hHeld=>?_)
  ·(first|exact hs1|exact hs0)
  exact q5z
 ·rw[if_neg hg];have hnu:nuB c.m (atM c s i).toNat 1=false:=decide_eq_false hg;rw[hnu]at CL;generalize nmR c.m (atM c s i).toNat 1=nn at*
  generalize(atM c s i).toNat=at' at*
  generalize c.r.getD d 0=rdv at*
  generalize c.r.getD s 0=rsv at*
  obtain⟨csx,hcsx⟩:∃l,A4 c mv=l:=⟨_,rfl⟩
  rw[hcsx]at CL hszm;simp only[hcsx]at hrg;clear HQ hnu hnb hn1 h hok hg hcsx;go_enter func48,ntmps48;go_upto_region 16 with fail
  have hs0:=HN.out.drew;refine wp_region_held_drew (S:=(RC base M mv w.heap.size 4 (d:Int) (s:Int) 32 i w c)) (by kernel_rfl) ?_ (fun hHeld=>?_)
  ·(first|exact hs1|exact hs0)
  exact A6C
theorem A1z(d s:Nat)(hd:d<32)(hs:s<32)(z i:Int)(w:World)(h:MM base M mv c w)(hzz:z=32)(hi: -2147483648≤i∧i≤4294967295):Calls prog 48 #[.pointer (some ⟨M,0,none⟩),.agg #[.int .i64 5,.int .i64 d,.int .i64 s,.int .i64 z,.int .i64 i]] w fun e w'=>RdP base M mv c (ldM d s 2 i 32 c) w e w':=by
 have hnew:=RC.new h 5 (d:Int) (s:Int) z i;obtain⟨W0,hW0⟩:∃W,w.alloc (.cells #[.int .i64 5,.int .i64 (d:Int),.int .i64 (s:Int),.int .i64 z,.int .i64 i] 61)=W:=⟨_,rfl⟩
 rw[hW0]at hnew;have rd:=(hnew.m.reg hd).1;have fd:=(hnew.m.reg hd).2;have rs:=(hnew.m.reg hs).1;obtain⟨y0,y1⟩:=h.rb d;obtain⟨v0,v1⟩:=h.rb s;obtain⟨g0,g1⟩:=h.fb;obtain⟨⟨x0,x1,x2,x3,x4⟩,xf⟩:=hnew.b.cells;have hBl:=hnew.b.lt;have hMl:=hnew.m.ltM;have hd1:(d:Int)<32:=by omega
 have hs1:(s:Int)<32:=by omega
 have HN:=hid hnew;clear hnew;subst hzz;have hok:=h.ok;have CL:=hid (fun wk (hv:Ints .u8 wk mv c.m)=>T5 c mv s 2 i wk hok hv hs (by decide) hi);have hrg:∀wk,RC base M mv w.heap.size 5 (d:Int) (s:Int) 32 i w c wk→wk.rangeAt M 0 (A4 c mv):=fun wk hk=>hk.m.m.range
 have hszm:=I3 hok.rl mv;have e2:∀wk,RC base M mv w.heap.size 5 (d:Int) (s:Int) 32 i w c wk→wk.cell? ⟨w.heap.size,2,none⟩=some (.int .i64 (s:Int)):=fun wk hk=>hk.b.cells.1.2.2.1
 have e4:∀wk,RC base M mv w.heap.size 5 (d:Int) (s:Int) 32 i w c wk→wk.cell? ⟨w.heap.size,4,none⟩=some (.int .i64 i):=fun wk hk=>hk.b.cells.1.2.2.2.2
 have hnb:=A2S hok.mb (q:=(atM c s i).toNat) (k:=2);have hn1:nmR c.m (atM c s i).toNat 2<pwZ 32:=Int.lt_of_lt_of_le hnb.2 (by decide);have CWR:=hid (fun wk (hk:MM base M mv c wk)=>G2 d hd (nmR c.m (atM c s i).toNat 2) 32 wk hk (by decide) hnb.1 hn1);have HQ:=hid (R7 (r:=c.r.getD d 0) hnb.1 hn1);unfold ldM;by_cases hg:(atM c s i).toNat+2≤c.m.length
 ·rw[if_pos hg,k9 hg,←HQ.out];have hnu:nuB c.m (atM c s i).toNat 2=true:=decide_eq_true hg;rw[hnu]at CL;generalize nmR c.m (atM c s i).toNat 2=nn at*
  generalize(atM c s i).toNat=at' at*
  generalize c.r.getD d 0=rdv at*
  generalize c.r.getD s 0=rsv at*
  obtain⟨csx,hcsx⟩:∃l,A4 c mv=l:=⟨_,rfl⟩
  rw[hcsx]at CL hszm;simp only[hcsx]at hrg;clear HQ hnu hnb hn1 h hok hg hcsx;go_enter func48,ntmps48;go_upto_region 16 with fail
  have hs0:=HN.out.drew;refine wp_region_held_drew (S:=(RC base M mv w.heap.size 5 (d:Int) (s:Int) 32 i w c)) (by kernel_rfl) ?_ (fun hHeld=>?_)
  ·(first|exact hs1|exact hs0)
  exact q5z
 ·rw[if_neg hg];have hnu:nuB c.m (atM c s i).toNat 2=false:=decide_eq_false hg;rw[hnu]at CL;generalize nmR c.m (atM c s i).toNat 2=nn at*
  generalize(atM c s i).toNat=at' at*
  generalize c.r.getD d 0=rdv at*
  generalize c.r.getD s 0=rsv at*
  obtain⟨csx,hcsx⟩:∃l,A4 c mv=l:=⟨_,rfl⟩
  rw[hcsx]at CL hszm;simp only[hcsx]at hrg;clear HQ hnu hnb hn1 h hok hg hcsx;go_enter func48,ntmps48;go_upto_region 16 with fail
  have hs0:=HN.out.drew;refine wp_region_held_drew (S:=(RC base M mv w.heap.size 5 (d:Int) (s:Int) 32 i w c)) (by kernel_rfl) ?_ (fun hHeld=>?_)
  ·(first|exact hs1|exact hs0)
  exact A6C
theorem A1y(d s:Nat)(hd:d<32)(hs:s<32)(z i:Int)(w:World)(h:MM base M mv c w)(hzz:z=16)(hi: -2147483648≤i∧i≤4294967295):Calls prog 48 #[.pointer (some ⟨M,0,none⟩),.agg #[.int .i64 3,.int .i64 d,.int .i64 s,.int .i64 z,.int .i64 i]] w fun e w'=>RdP base M mv c (stM d s 2 i 16 c) w e w':=by
 have hnew:=RC.new h 3 (d:Int) (s:Int) z i;obtain⟨W0,hW0⟩:∃W,w.alloc (.cells #[.int .i64 3,.int .i64 (d:Int),.int .i64 (s:Int),.int .i64 z,.int .i64 i] 61)=W:=⟨_,rfl⟩
 rw[hW0]at hnew;have rd:=(hnew.m.reg hd).1;have fd:=(hnew.m.reg hd).2;have rs:=(hnew.m.reg hs).1;obtain⟨y0,y1⟩:=h.rb d;obtain⟨v0,v1⟩:=h.rb s;obtain⟨g0,g1⟩:=h.fb;obtain⟨⟨x0,x1,x2,x3,x4⟩,xf⟩:=hnew.b.cells;have hBl:=hnew.b.lt;have hMl:=hnew.m.ltM;have hd1:(d:Int)<32:=by omega
 have hs1:(s:Int)<32:=by omega
 have HN:=hid hnew;clear hnew;subst hzz;have CP:=hid (fun wk=>show Calls _ _ _ wk (fun e w'=>e= .returned (.int .i64 (c.r.getD s 0%65536))∧wk=w')from F9 (c.r.getD s 0) 16 wk (by decide) v0 v1);have hle:leB (c.r.getD s 0%65536) 2=leB (c.r.getD s 0) 2:=y9 2 (c.r.getD s 0);have hni:I64 (c.r.getD s 0%65536):=by unfold I64;omega
 unfold stM;by_cases hg:(atM c d i).toNat+2≤c.m.length
 ·rw[if_pos hg];have CS:=hid (fun wk (hk:MM base M mv c wk)=>Z4 base M mv c d 2 i (c.r.getD s 0%65536) wk hk hd (by decide) (by decide) hi hni hg);rw[hle]at CS;generalize leB (c.r.getD s 0) 2=lb at*
  generalize c.r.getD s 0%65536=p at*
  generalize(atM c d i).toNat=at' at*
  generalize c.r.getD d 0=rdv at*
  generalize c.r.getD s 0=rsv at*
  clear hle hni hg h;go_enter func48,ntmps48;go_upto_region 21 with fail
  refine B4 16 (by kernel_rfl) (by kernel_rfl) ?_;dsimp only[List.take,List.drop];exact A8q
 ·rw[if_neg hg];have CS:=hid (fun wk (hk:MM base M mv c wk)=>Z5 base M mv c d 2 i (c.r.getD s 0%65536) wk hk hd (by decide) hi (by omega));generalize c.r.getD s 0%65536=p at*
  generalize(atM c d i).toNat=at' at*
  generalize c.r.getD d 0=rdv at*
  generalize c.r.getD s 0=rsv at*
  clear hle hni hg h;go_enter func48,ntmps48;go_upto_region 21 with fail
  refine B4 16 (by kernel_rfl) (by kernel_rfl) ?_;dsimp only[List.take,List.drop];exact A8r
theorem A1x(d s:Nat)(hd:d<32)(hs:s<32)(z i:Int)(w:World)(h:MM base M mv c w)(hzz:z=32)(hi: -2147483648≤i∧i≤4294967295):Calls prog 48 #[.pointer (some ⟨M,0,none⟩),.agg #[.int .i64 3,.int .i64 d,.int .i64 s,.int .i64 z,.int .i64 i]] w fun e w'=>RdP base M mv c (stM d s 4 i 32 c) w e w':=by
 have hnew:=RC.new h 3 (d:Int) (s:Int) z i;obtain⟨W0,hW0⟩:∃W,w.alloc (.cells #[.int .i64 3,.int .i64 (d:Int),.int .i64 (s:Int),.int .i64 z,.int .i64 i] 61)=W:=⟨_,rfl⟩
 rw[hW0]at hnew;have rd:=(hnew.m.reg hd).1;have fd:=(hnew.m.reg hd).2;have rs:=(hnew.m.reg hs).1;obtain⟨y0,y1⟩:=h.rb d;obtain⟨v0,v1⟩:=h.rb s;obtain⟨g0,g1⟩:=h.fb;obtain⟨⟨x0,x1,x2,x3,x4⟩,xf⟩:=hnew.b.cells;have hBl:=hnew.b.lt;have hMl:=hnew.m.ltM;have hd1:(d:Int)<32:=by omega
 have hs1:(s:Int)<32:=by omega
 have HN:=hid hnew;clear hnew;subst hzz;have CP:=hid (fun wk=>show Calls _ _ _ wk (fun e w'=>e= .returned (.int .i64 (c.r.getD s 0%4294967296))∧wk=w')from F9 (c.r.getD s 0) 32 wk (by decide) v0 v1);have hle:leB (c.r.getD s 0%4294967296) 4=leB (c.r.getD s 0) 4:=y9 4 (c.r.getD s 0);have hni:I64 (c.r.getD s 0%4294967296):=by unfold I64;omega
 unfold stM;by_cases hg:(atM c d i).toNat+4≤c.m.length
 ·rw[if_pos hg];have CS:=hid (fun wk (hk:MM base M mv c wk)=>Z4 base M mv c d 4 i (c.r.getD s 0%4294967296) wk hk hd (by decide) (by decide) hi hni hg);rw[hle]at CS;generalize leB (c.r.getD s 0) 4=lb at*
  generalize c.r.getD s 0%4294967296=p at*
  generalize(atM c d i).toNat=at' at*
  generalize c.r.getD d 0=rdv at*
  generalize c.r.getD s 0=rsv at*
  clear hle hni hg h;go_enter func48,ntmps48;go_upto_region 21 with fail
  refine B4 16 (by kernel_rfl) (by kernel_rfl) ?_;dsimp only[List.take,List.drop];exact A8q
 ·rw[if_neg hg];have CS:=hid (fun wk (hk:MM base M mv c wk)=>Z5 base M mv c d 4 i (c.r.getD s 0%4294967296) wk hk hd (by decide) hi (by omega));generalize c.r.getD s 0%4294967296=p at*
  generalize(atM c d i).toNat=at' at*
  generalize c.r.getD d 0=rdv at*
  generalize c.r.getD s 0=rsv at*
  clear hle hni hg h;go_enter func48,ntmps48;go_upto_region 21 with fail
  refine B4 16 (by kernel_rfl) (by kernel_rfl) ?_;dsimp only[List.take,List.drop];exact A8r
theorem A1w(d s:Nat)(hd:d<32)(hs:s<32)(z i:Int)(w:World)(h:MM base M mv c w)(hzz:z=32)(hi: -2147483648≤i∧i≤4294967295):Calls prog 48 #[.pointer (some ⟨M,0,none⟩),.agg #[.int .i64 6,.int .i64 d,.int .i64 s,.int .i64 z,.int .i64 i]] w fun e w'=>RdP base M mv c (stM d s 1 i 32 c) w e w':=by
 have hnew:=RC.new h 6 (d:Int) (s:Int) z i;obtain⟨W0,hW0⟩:∃W,w.alloc (.cells #[.int .i64 6,.int .i64 (d:Int),.int .i64 (s:Int),.int .i64 z,.int .i64 i] 61)=W:=⟨_,rfl⟩
 rw[hW0]at hnew;have rd:=(hnew.m.reg hd).1;have fd:=(hnew.m.reg hd).2;have rs:=(hnew.m.reg hs).1;obtain⟨y0,y1⟩:=h.rb d;obtain⟨v0,v1⟩:=h.rb s;obtain⟨g0,g1⟩:=h.fb;obtain⟨⟨x0,x1,x2,x3,x4⟩,xf⟩:=hnew.b.cells;have hBl:=hnew.b.lt;have hMl:=hnew.m.ltM;have hd1:(d:Int)<32:=by omega
 have hs1:(s:Int)<32:=by omega
 have HN:=hid hnew;clear hnew;subst hzz;have CP:=hid (fun wk=>show Calls _ _ _ wk (fun e w'=>e= .returned (.int .i64 (c.r.getD s 0%256))∧wk=w')from F9 (c.r.getD s 0) 8 wk (by decide) v0 v1);have hle:leB (c.r.getD s 0%256) 1=leB (c.r.getD s 0) 1:=y9 1 (c.r.getD s 0);have hni:I64 (c.r.getD s 0%256):=by unfold I64;omega
 unfold stM;by_cases hg:(atM c d i).toNat+1≤c.m.length
 ·rw[if_pos hg];have CS:=hid (fun wk (hk:MM base M mv c wk)=>Z4 base M mv c d 1 i (c.r.getD s 0%256) wk hk hd (by decide) (by decide) hi hni hg);rw[hle]at CS;generalize leB (c.r.getD s 0) 1=lb at*
  generalize c.r.getD s 0%256=p at*
  generalize(atM c d i).toNat=at' at*
  generalize c.r.getD d 0=rdv at*
  generalize c.r.getD s 0=rsv at*
  clear hle hni hg h;go_enter func48,ntmps48;go_upto_region 23 with fail
  refine B4 13 (by kernel_rfl) (by kernel_rfl) ?_;dsimp only[List.take,List.drop];exact A8q
 ·rw[if_neg hg];have CS:=hid (fun wk (hk:MM base M mv c wk)=>Z5 base M mv c d 1 i (c.r.getD s 0%256) wk hk hd (by decide) hi (by omega));generalize c.r.getD s 0%256=p at*
  generalize(atM c d i).toNat=at' at*
  generalize c.r.getD d 0=rdv at*
  generalize c.r.getD s 0=rsv at*
  clear hle hni hg h;go_enter func48,ntmps48;go_upto_region 23 with fail
  refine B4 13 (by kernel_rfl) (by kernel_rfl) ?_;dsimp only[List.take,List.drop];exact A8r
theorem N9(o:Int)(od:Option Mac)(ho:20≤o)(d s:Nat)(z i:Int)(w:World)(h:MM base M mv c w)(CU:∀wk,MM base M mv c wk→Calls prog 91 #[.pointer (some ⟨M,0,none⟩),.agg #[.int .i64 o,.int .i64 d,.int .i64 s,.int .i64 z,.int .i64 i]] wk fun e w'=>RdP base M mv c od wk e w'):Calls prog 48 #[.pointer (some ⟨M,0,none⟩),.agg #[.int .i64 o,.int .i64 d,.int .i64 s,.int .i64 z,.int .i64 i]] w fun e w'=>RdP base M mv c od w e w':=by
 have hnew:=RC.new h o (d:Int) (s:Int) z i;obtain⟨W0,hW0⟩:∃W,w.alloc (.cells #[.int .i64 o,.int .i64 (d:Int),.int .i64 (s:Int),.int .i64 z,.int .i64 i] 61)=W:=⟨_,rfl⟩
 rw[hW0]at hnew;obtain⟨⟨x0,x1,x2,x3,x4⟩,xf⟩:=hnew.b.cells;have hBl:=hnew.b.lt;have hMl:=hnew.m.ltM;have HN:=hid hnew;have CD:=hid (CU W0 hnew.m);have q0:(o==0)=false:=beq_false_of_ne (by omega);have q1:(o==1)=false:=beq_false_of_ne (by omega);have q2:(o==2)=false:=beq_false_of_ne (by omega);have q3:(o==3)=false:=beq_false_of_ne (by omega);have q4:(o==4)=false:=beq_false_of_ne (by omega);have q5:(o==5)=false:=beq_false_of_ne (by omega);have q6:(o==6)=false:=beq_false_of_ne (by omega);have q7:(o==7)=false:=beq_false_of_ne (by omega);have q8:(o==8)=false:=beq_false_of_ne (by omega);have q9:(o==9)=false:=beq_false_of_ne (by omega);have q10:(o==10)=false:=beq_false_of_ne (by omega);have q11:(o==11)=false:=beq_false_of_ne (by omega);have q12:(o==12)=false:=beq_false_of_ne (by omega);have q13:(o==13)=false:=beq_false_of_ne (by omega);have q14:(o==14)=false:=beq_false_of_ne (by omega);have q15:(o==15)=false:=beq_false_of_ne (by omega);have q16:(o==16)=false:=beq_false_of_ne (by omega);have q17:(o==17)=false:=beq_false_of_ne (by omega);have q18:(o==18)=false:=beq_false_of_ne (by omega);have q19:(o==19)=false:=beq_false_of_ne (by omega);clear hnew CU h ho;cases od
 ·go_enter func48,ntmps48;go_wp2_with((with_reducible refine(CD.out).mono ?_);rintro e w1 ⟨⟨rfl,hx1⟩,hx2⟩)
  go_ret;exact RdP.from' ⟨⟨rfl,hx1⟩,hx2⟩ HN.out.ch
 ·go_enter func48,ntmps48;go_wp2_with((with_reducible refine(CD.out).mono ?_);rintro e w1 ⟨⟨rfl,hx1⟩,hx2⟩)
  go_ret;exact RdP.from' ⟨⟨rfl,hx1⟩,hx2⟩ HN.out.ch
end
end Go.Proofs.YtdojafpjipcbjaaGreat
