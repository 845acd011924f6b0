/- -/
import Derived.Test.YtdojafpjipcbjaaGreatK1
import Derived.Test.YtdojafpjipcbjaaGreatK12
import Derived.Test.YtdojafpjipcbjaaGreatK17
import Derived.Test.YtdojafpjipcbjaaGreatK22
import Derived.Test.YtdojafpjipcbjaaGreatK23
import Derived.Test.YtdojafpjipcbjaaGreatK30
open Go.Proofs.Tryz
open Go.Lib (hid)
set_option maxHeartbeats 1000000
set_option maxRecDepth 100000
namespace Go.Proofs.YtdojafpjipcbjaaGreat
open Go.RowKit
set_option linter.unusedVariables false
set_option linter.unusedSimpArgs false
theorem A9f(o d s z i:Int)(w:World)(h:¬(z=8∨z=16∨z=32)):Calls prog 84 #[.agg #[.int .i64 o,.int .i64 d,.int .i64 s,.int .i64 z,.int .i64 i]] w fun e w'=>e= .returned (.tuple #[.slice none 0 0,.bool false])∧Below w.heap.size w w':=by
 have n8:(z !=8)=true:=by simp;omega
 have n16:(z !=16)=true:=by simp;omega
 have n32:(z !=32)=true:=by simp;omega
 have HB:=hid ((Below.refl w.heap.size w).alloc (Nat.le_refl _) (.cells #[.int .i64 o,.int .i64 d,.int .i64 s,.int .i64 z,.int .i64 i] 61));clear h;go_enter func84,ntmps84;go_wp2_with fail
 go_ret2
 exact⟨rfl,HB.out⟩
theorem B3C{x:Ins}(h:okI x=true):x.z=8∨x.z=16∨x.z=32:=by
 have hz:=E8 h;unfold szI at hz
 repeat(first|(split at hz;·simp at hz;omega)|(simp at hz;done))
theorem B1n{x:Ins}(h:okI x=true)(h8:x.z=8):28≤x.o:=by
 have hz:=E8 h;rw[h8]at hz;have ho:=j9 h;unfold szI at hz
 split at hz
 ·simp at hz
 split at hz
 ·simp at hz
 split at hz
 ·simp at hz
 split at hz
 ·simp at hz
 split at hz
 ·simp at hz
 split at hz
 ·simp at hz
 omega
theorem A1X(x:Ins)(w:World)(hi:I64 x.i)(hok:okI x=true):Calls prog 84 #[D5 x] w fun e w'=>∃v,e= .returned (.tuple #[v,.bool true])∧RowI w' w.heap.size 5 .u8 v (H7 x)∧Below w.heap.size w w':=by
 have hz:=B3C hok;have ho:=j9 hok;obtain⟨o,d,s,z,i⟩:=x;simp only at hz ho hi;by_cases c1:o≤6
 ·rcases hz with rfl|rfl|rfl
  ·have:=B1n hok rfl;simp only at this;omega
  ·exact A3i o d s i w hi (by omega) c1 hok
  ·exact A3b o d s i w hi (by omega) c1 hok
 ·by_cases c2:o≤27
  ·rcases hz with rfl|rfl|rfl
   ·have:=B1n hok rfl;simp only at this;omega
   ·exact A3g o d s i w hi (by omega) c2 hok
   ·exact A3Z o d s i w hi (by omega) c2 hok
  ·rcases hz with rfl|rfl|rfl
   ·exact A4z o d s i w hi (by omega) ho.2 hok
   ·exact A3e o d s i w hi (by omega) ho.2 hok
   ·exact A3X o d s i w hi (by omega) ho.2 hok
theorem A0j(x:Ins)(w:World)(hi:I64 x.i)(hok:okI x=false):Calls prog 84 #[D5 x] w fun e w'=>e= .returned (.tuple #[.slice none 0 0,.bool false])∧Below w.heap.size w w':=by
 obtain⟨o,d,s,z,i⟩:=x;simp only at hi;by_cases hz:z=8∨z=16∨z=32
 ·by_cases ho:0≤o∧o≤36
  ·by_cases c1:o≤6
   ·rcases hz with rfl|rfl|rfl
    ·exact A5C o d s i w hi ho.1 c1 hok
    ·exact A3j o d s i w hi ho.1 c1 hok
    ·exact A3c o d s i w hi ho.1 c1 hok
   ·by_cases c2:o≤27
    ·rcases hz with rfl|rfl|rfl
     ·exact A5B o d s i w hi (by omega) c2 hok
     ·exact A3h o d s i w hi (by omega) c2 hok
     ·exact A3a o d s i w hi (by omega) c2 hok
    ·rcases hz with rfl|rfl|rfl
     ·exact A5A o d s i w hi (by omega) ho.2 hok
     ·exact A3f o d s i w hi (by omega) ho.2 hok
     ·exact A3Y o d s i w hi (by omega) ho.2 hok
  ·rcases hz with rfl|rfl|rfl
   ·exact A4y o d s i w hi (by omega)
   ·exact A3d o d s i w hi (by omega)
   ·exact A3W o d s i w hi (by omega)
 ·exact A9f o d s z i w hz
theorem U9(c f:Int)(w:World)(hc:isC c=true)(h0:0≤f)(h1:f≤15):Calls prog 49 #[.int .i64 c,.int .i64 f] w fun e w'=>e= .returned (.bool (hoB c f))∧Below w.heap.size w w':=by
 rcases p7 hc with rfl|rfl|rfl|rfl|rfl|rfl|rfl|rfl|rfl|rfl|rfl|rfl|rfl|rfl
 ·exact B0L f w h0 h1
 ·exact B0K f w h0 h1
 ·exact B0J f w h0 h1
 ·exact B0I f w h0 h1
 ·exact B0H f w h0 h1
 ·exact B0G f w h0 h1
 ·exact B0F f w h0 h1
 ·exact B0E f w h0 h1
 ·exact B0D f w h0 h1
 ·exact B0C f w h0 h1
 ·exact A7x f w h0 h1
 ·exact A7w f w h0 h1
 ·exact A7v f w h0 h1
 ·exact A7u f w h0 h1
theorem B1Y{p:Prop}(h:p:=by
 simp only[Bool.false_eq_true,if_false,if_true]at CWR⊢;go_enter func91,ntmps91;go_upto_region 27 with fail
 refine B4 6 (by kernel_rfl) (by kernel_rfl) ?_;dsimp only[List.take,List.drop]
 repeat(quiet_step (fail))
 refine wpQuiet_nil ?_;intro _ hw';obtain⟨k3,hw''⟩:=hw';subst hw'';go_upto_region 29 with((with_reducible refine(CH.out _).mono ?_);rintro e w1 ⟨rfl,hb1⟩;have HB1:=hid hb1;clear hb1)
 have HN2:=hid ((HN.out.drewN k3).below HB1.out);obtain⟨⟨-,q1,-,-,-⟩,-⟩:=HN2.out.b.cells;have hB2:=HN2.out.b.lt;have CWQ:=hid (CWR.out w1 HN2.out.m);go_wp2_with((with_reducible refine(CWQ.out).mono ?_);rintro e w3 ⟨rfl,hm3,hc3⟩)
 go_ret;exact RdP.ok rfl hm3 (HN2.out.ch.trans hc3)
 ):p:=h
section
variable {base M : Nat} {mv : Value} {c : Mac}
theorem A9p(d s:Nat)(hd:d<32)(hs:s<32)(z i:Int)(w:World)(h:MM base M mv c w)(hcc:isC (s:Int)=true):Calls prog 91 #[.pointer (some ⟨M,0,none⟩),.agg #[.int .i64 29,.int .i64 d,.int .i64 s,.int .i64 z,.int .i64 i]] w fun e w'=>RdP base M mv c (some (r8 d s i z c)) w e w':=by
 have hnew:=RC.new h 29 (d:Int) (s:Int) z i;obtain⟨W0,hW0⟩:∃W,w.alloc (.cells #[.int .i64 29,.int .i64 (d:Int),.int .i64 (s:Int),.int .i64 z,.int .i64 i] 61)=W:=⟨_,rfl⟩
 rw[hW0]at hnew;have rd:=(hnew.m.reg hd).1;have fd:=(hnew.m.reg hd).2;have rs:=(hnew.m.reg hs).1;have r1:=(hnew.m.reg (d:=1) (by decide)).1;obtain⟨y0,y1⟩:=h.rb d;obtain⟨v0,v1⟩:=h.rb s;obtain⟨u0,u1⟩:=h.rb 1;obtain⟨g0,g1⟩:=h.fb;have fc:=(hnew.m.tailAt 0 _ rfl).1;obtain⟨⟨x0,x1,x2,x3,x4⟩,xf⟩:=hnew.b.cells;have hBl:=hnew.b.lt;have hMl:=hnew.m.ltM;have hd1:(d:Int)<32:=by omega
 have hs1:(s:Int)<32:=by omega
 have HN:=hid hnew;clear hnew;have CH:=hid (fun wk=>U9 (s:Int) c.f wk hcc g0 g1);have HE:Hid (r8 d s i z c={c with r:=c.r.set d (wrQ (c.r.getD d 0) (if hoB (s:Int) c.f=true then 1 else 0) 8)}):=hid (by
  unfold r8 wrQ;have e1:pwZ 8=256:=rfl;rw[e1];have e2:c.r.getD d 0 / 256*256+(if hoB (s:Int) c.f=true then 1 else 0)=c.r.getD d 0-c.r.getD d 0%256+(if hoB (s:Int) c.f=true then 1 else 0):=by omega
  rw[e2])
 rw[HE.out];clear HE;obtain⟨b,hb⟩:∃b,hoB (s:Int) c.f=b:=⟨_,rfl⟩
 rw[hb]at CH⊢;have CWR:=hid (fun wk (hk:MM base M mv c wk)=>G2 d hd (if b=true then 1 else 0) 8 wk hk (by decide) (by split<;>decide) (by split<;>decide));clear hb;generalize c.r.getD d 0=rdv at*
 cases b
 ·exact B1Y
 ·exact B1Y
theorem A9n(d s:Nat)(hd:d<32)(hs:s<32)(z i:Int)(w:World)(h:MM base M mv c w)(hcc:isC i=true):Calls prog 91 #[.pointer (some ⟨M,0,none⟩),.agg #[.int .i64 31,.int .i64 d,.int .i64 s,.int .i64 z,.int .i64 i]] w fun e w'=>RdP base M mv c (some (if hoB i c.f=true then{c with r:=c.r.set d (c.r.getD s 0)}else c)) w e w':=by
 have hnew:=RC.new h 31 (d:Int) (s:Int) z i;obtain⟨W0,hW0⟩:∃W,w.alloc (.cells #[.int .i64 31,.int .i64 (d:Int),.int .i64 (s:Int),.int .i64 z,.int .i64 i] 61)=W:=⟨_,rfl⟩
 rw[hW0]at hnew;have rd:=(hnew.m.reg hd).1;have fd:=(hnew.m.reg hd).2;have rs:=(hnew.m.reg hs).1;have r1:=(hnew.m.reg (d:=1) (by decide)).1;obtain⟨y0,y1⟩:=h.rb d;obtain⟨v0,v1⟩:=h.rb s;obtain⟨u0,u1⟩:=h.rb 1;obtain⟨g0,g1⟩:=h.fb;have fc:=(hnew.m.tailAt 0 _ rfl).1;obtain⟨⟨x0,x1,x2,x3,x4⟩,xf⟩:=hnew.b.cells;have hBl:=hnew.b.lt;have hMl:=hnew.m.ltM;have hd1:(d:Int)<32:=by omega
 have hs1:(s:Int)<32:=by omega
 have HN:=hid hnew;clear hnew;have CH:=hid (fun wk=>U9 i c.f wk hcc g0 g1);have HG:=hid (fun wk (hk:MM base M mv c wk)=>(⟨hk.reg hd,hk.reg hs⟩:(wk.cell? ⟨M,d,none⟩=some (.int .u32 (c.r.getD d 0))∧wk.frozen? ⟨M,d,none⟩=false)∧(wk.cell? ⟨M,s,none⟩=some (.int .u32 (c.r.getD s 0))∧wk.frozen? ⟨M,s,none⟩=false)));have HS:=hid (fun wk (hk:RC base M mv w.heap.size 31 (d:Int) (s:Int) z i w c wk)=>RdP.ok (c:=c) (e:=.returned (.bool true)) rfl (hk.m.setR hd v0 v1) (hk.ch.setM _ _));obtain⟨b,hb⟩:∃b,hoB i c.f=b:=⟨_,rfl⟩
 rw[hb]at CH⊢;clear hb;generalize c.r.getD d 0=rdv at*
 generalize c.r.getD s 0=rsv at*
 cases b
 ·rw[if_neg (by decide)];go_enter func91,ntmps91;go_upto_region 33 with fail
  refine B4 6 (by kernel_rfl) (by kernel_rfl) ?_;dsimp only[List.take,List.drop]
  repeat(quiet_step (fail))
  refine wpQuiet_nil ?_;intro _ hw';obtain⟨k3,hw''⟩:=hw';subst hw'';go_wp2_with((with_reducible refine(CH.out _).mono ?_);rintro e w1 ⟨rfl,hb1⟩;have HB1:=hid hb1;clear hb1)
  go_ret;exact RdP.ok rfl ((HN.out.drewN k3).below HB1.out).m ((HN.out.drewN k3).below HB1.out).ch
 ·rw[if_pos rfl];go_enter func91,ntmps91;go_upto_region 33 with fail
  refine B4 6 (by kernel_rfl) (by kernel_rfl) ?_;dsimp only[List.take,List.drop]
  repeat(quiet_step (fail))
  refine wpQuiet_nil ?_;intro _ hw';obtain⟨k3,hw''⟩:=hw';subst hw'';go_upto_region 34 with((with_reducible refine(CH.out _).mono ?_);rintro e w1 ⟨rfl,hb1⟩;have HB1:=hid hb1;clear hb1)
  have HN2:=hid ((HN.out.drewN k3).below HB1.out);obtain⟨⟨q0,q1,q2,q3,q4⟩,-⟩:=HN2.out.b.cells;obtain⟨⟨p1,pf1⟩,⟨p2,pf2⟩⟩:=HG.out _ HN2.out.m;have hB2:=HN2.out.b.lt;have hM2:=HN2.out.m.ltM;clear x0 x1 x2 x3 x4 xf rd fd rs r1 fc hBl hMl;refine B4 13 (by kernel_rfl) (by kernel_rfl) ?_;dsimp only[List.take,List.drop]
  repeat(quiet_step (fail))
  refine wpQuiet_nil ?_;intro _ hw';obtain⟨k4,hw''⟩:=hw';subst hw'';go_wp2_with fail
  go_ret;exact HS.out _ (HN2.out.drewN _)
theorem A9x(d s:Nat)(hd:d<32)(hs:s<32)(z i:Int)(w:World)(h:MM base M mv c w):Calls prog 91 #[.pointer (some ⟨M,0,none⟩),.agg #[.int .i64 20,.int .i64 d,.int .i64 s,.int .i64 z,.int .i64 i]] w fun e w'=>RdP base M mv c (some (A3F d s c)) w e w':=by
 have hnew:=RC.new h 20 (d:Int) (s:Int) z i;obtain⟨W0,hW0⟩:∃W,w.alloc (.cells #[.int .i64 20,.int .i64 (d:Int),.int .i64 (s:Int),.int .i64 z,.int .i64 i] 61)=W:=⟨_,rfl⟩
 rw[hW0]at hnew;have rd:=(hnew.m.reg hd).1;have fd:=(hnew.m.reg hd).2;have rs:=(hnew.m.reg hs).1;have r1:=(hnew.m.reg (d:=1) (by decide)).1;obtain⟨y0,y1⟩:=h.rb d;obtain⟨v0,v1⟩:=h.rb s;obtain⟨u0,u1⟩:=h.rb 1;obtain⟨g0,g1⟩:=h.fb;have fc:=(hnew.m.tailAt 0 _ rfl).1;obtain⟨⟨x0,x1,x2,x3,x4⟩,xf⟩:=hnew.b.cells;have hBl:=hnew.b.lt;have hMl:=hnew.m.ltM;have hd1:(d:Int)<32:=by omega
 have hs1:(s:Int)<32:=by omega
 have HN:=hid hnew;clear hnew;have CS1:=hid (fun wk=>show Calls _ _ _ wk (fun e w'=>e= .returned (.int .i64 (D8 (c.r.getD d 0)))∧wk=w')from E3 (c.r.getD d 0) 32 wk (by unfold I64;omega) (by omega) (by decide));have CS2:=hid (fun wk=>show Calls _ _ _ wk (fun e w'=>e= .returned (.int .i64 (D8 (c.r.getD s 0)))∧wk=w')from E3 (c.r.getD s 0) 32 wk (by unfold I64;omega) (by omega) (by decide));have hb1:=f8 y0 y1;have hb2:=f8 v0 v1;have hmb:=mul_bd hb1 hb2;have CW:=hid (fun wk=>J9 (D8 (c.r.getD d 0)*D8 (c.r.getD s 0)) wk (by unfold I64;omega));have CB:=hid (fun wk=>show Calls _ _ _ wk (fun e w'=>e= .returned (.bool (A3R (D8 (c.r.getD d 0)*D8 (c.r.getD s 0))))∧wk=w')from F7 (D8 (c.r.getD d 0)*D8 (c.r.getD s 0)) wk);have HS:=hid (fun wk (hk:MM base M mv c wk)=>hk.setR hd (Int.emod_nonneg (D8 (c.r.getD d 0)*D8 (c.r.getD s 0)) (by decide)) (Int.emod_lt_of_pos (D8 (c.r.getD d 0)*D8 (c.r.getD s 0)) (by decide:(0:Int)<4294967296)));have hwp:wrap64 (D8 (c.r.getD d 0)*D8 (c.r.getD s 0))=D8 (c.r.getD d 0)*D8 (c.r.getD s 0):=IntWalk.wrap64_in _ hmb;have q1:c.f.tdiv 2=c.f / 2:=Int.tdiv_eq_ediv_of_nonneg g0;have q2:(c.f / 2).tmod 4=c.f / 2%4:=Int.tmod_eq_emod_of_nonneg (by omega);unfold A3F;have HGD:=hid (fun wk (hk:MM base M mv c wk)=>hk.reg hd);obtain⟨b,hb⟩:∃b,A3R (D8 (c.r.getD d 0)*D8 (c.r.getD s 0))=b:=⟨_,rfl⟩
 rw[hb]at CB⊢;clear hb;generalize D8 (c.r.getD d 0)=sa at*
 generalize D8 (c.r.getD s 0)=sb at*
 generalize c.r.getD d 0=rdv at*
 generalize c.r.getD s 0=rsv at*
 cases b
 ·simp only[Bool.false_eq_true,if_false,if_true];go_enter func91,ntmps91;go_upto_region 36 with fail
  go_quiet(first|(go_at_call 105;with_reducible exact B8 (CS1.out _))|(go_at_call 105;with_reducible exact B8 (CS2.out _)))
  have HN2:=hid (HN.out.drewN nq);obtain⟨⟨q0,q1',q2',q3,q4⟩,-⟩:=HN2.out.b.cells;obtain⟨p1,pf1⟩:=HGD.out _ HN2.out.m;have hB2:=HN2.out.b.lt;have hM2:=HN2.out.m.ltM;clear x0 x1 x2 x3 x4 xf rd fd rs r1 fc hBl hMl CS1 CS2;generalize W0.drewN nq=Wq at*
  generalize hp:sa*sb=p at*
  have HP:=hid hp;clear hp hwp hb1 hb2 hmb;go_upto_region 37 with fail
  refine B4 8 (by kernel_rfl) (by kernel_rfl) ?_;dsimp only[List.take,List.drop]
  repeat(quiet_step ((go_at_call 50;with_reducible exact B8 (CW.out _))))
  refine wpQuiet_nil ?_;intro _ hw';obtain⟨k3,hw''⟩:=hw';subst hw'';go_upto_region 38 with fail
  have HN3:=hid ((HN2.out.drewN k3).next (HS.out _ (HN2.out.drewN k3).m) ((Ch.refl _ _ _ _).setM d (.int .u32 (p%4294967296))));have hq3:=(HN3.out.m.tailAt 0 _ rfl).1;have hg3:=(HN3.out.m.tailAt 0 _ rfl).2;have hM3:=HN3.out.m.ltM;simp only at hq3;generalize(Wq.drewN k3).setCell ⟨M,d,none⟩ (.int .u32 (p%4294967296))=Wr at*
  clear q0 q1' q2' q3 q4 p1 pf1 hB2 hM2 HGD HS;have hf4:0≤c.f / 2%4∧c.f / 2%4<4:=by omega
  generalize hff:c.f / 2%4=f4 at*
  have HFF:=hid hff;clear hff;have HM4:=hid (HN3.out.m.setF (n:=f4*2) (by omega) (by omega));have HM5:=hid (HM4.out.setF (n:=f4*2+9) (by omega) (by omega));go_wp2_with((with_reducible refine(CB.out _).mono ?_);rintro e wk ⟨rfl,rfl⟩)
  go_ret;rw[HP.out,HFF.out];exact RdP.ok rfl HM5.out ((HN3.out.ch.setM _ _).setM _ _)
 ·simp only[Bool.false_eq_true,if_false,if_true];go_enter func91,ntmps91;go_upto_region 36 with fail
  go_quiet(first|(go_at_call 105;with_reducible exact B8 (CS1.out _))|(go_at_call 105;with_reducible exact B8 (CS2.out _)))
  have HN2:=hid (HN.out.drewN nq);obtain⟨⟨q0,q1',q2',q3,q4⟩,-⟩:=HN2.out.b.cells;obtain⟨p1,pf1⟩:=HGD.out _ HN2.out.m;have hB2:=HN2.out.b.lt;have hM2:=HN2.out.m.ltM;clear x0 x1 x2 x3 x4 xf rd fd rs r1 fc hBl hMl CS1 CS2;generalize W0.drewN nq=Wq at*
  generalize hp:sa*sb=p at*
  have HP:=hid hp;clear hp hwp hb1 hb2 hmb;go_upto_region 37 with fail
  refine B4 8 (by kernel_rfl) (by kernel_rfl) ?_;dsimp only[List.take,List.drop]
  repeat(quiet_step ((go_at_call 50;with_reducible exact B8 (CW.out _))))
  refine wpQuiet_nil ?_;intro _ hw';obtain⟨k3,hw''⟩:=hw';subst hw'';go_upto_region 38 with fail
  have HN3:=hid ((HN2.out.drewN k3).next (HS.out _ (HN2.out.drewN k3).m) ((Ch.refl _ _ _ _).setM d (.int .u32 (p%4294967296))));have hq3:=(HN3.out.m.tailAt 0 _ rfl).1;have hg3:=(HN3.out.m.tailAt 0 _ rfl).2;have hM3:=HN3.out.m.ltM;simp only at hq3;generalize(Wq.drewN k3).setCell ⟨M,d,none⟩ (.int .u32 (p%4294967296))=Wr at*
  clear q0 q1' q2' q3 q4 p1 pf1 hB2 hM2 HGD HS;have hf4:0≤c.f / 2%4∧c.f / 2%4<4:=by omega
  generalize hff:c.f / 2%4=f4 at*
  have HFF:=hid hff;clear hff;have HM4:=hid (HN3.out.m.setF (n:=f4*2) (by omega) (by omega));go_wp2_with((with_reducible refine(CB.out _).mono ?_);rintro e wk ⟨rfl,rfl⟩)
  go_ret;rw[HP.out,HFF.out,Int.add_zero];exact RdP.ok rfl HM4.out (HN3.out.ch.setM _ _)
end
end Go.Proofs.YtdojafpjipcbjaaGreat
namespace Go.Proofs.YtdojafpjipcbjaaGreat
open Go.RowKit
set_option linter.unusedVariables false
set_option linter.unusedSimpArgs false
theorem A4O(l:List Int)(m k:Nat):rdB (l.drop m) (k+1)=l.getD m 0+256*rdB (l.drop (m+1)) k:=by
 have e:(l.drop m).tail=l.drop (m+1):=by rw[List.tail_drop]
 have g:(l.drop m).getD 0 0=l.getD m 0:=by rw[Y4,Nat.add_zero]
 rw[←e,←g];cases l.drop m with
 |nil=>simp[rdB];cases k<;>rfl
 |cons b r=>rfl
theorem A5o{l:List Int}(h:Byt l)(m t:Nat)(ht:t≤3):0≤rdB (l.drop m) t∧rdB (l.drop m) t<16777216:=by
 have:=M2 (g7 h m t) t;rw[show rdJ (rdN l m t) t=rdB (l.drop m) t by rw[←f9 l m t,I5]]at this;refine⟨this.1,Int.lt_of_lt_of_le this.2 ?_⟩;rcases(show t=0∨t=1∨t=2∨t=3 by omega)with rfl|rfl|rfl|rfl<;>decide
theorem A1f(l:List Int)(a n k:Nat)(h:a≤l.length):nmR (l.drop a) n k=nmR l (a+n) k:=by
 unfold nmR;rw[Y8,List.length_drop];by_cases c:n+k≤l.length-a
 ·rw[if_pos c,if_pos (by omega)]
 ·rw[if_neg c,if_neg (by omega)]
theorem A7y{a b:Int}{x:Bool}(h:a=b):Ending.returned (.tuple #[.int .i64 a,.bool x])= .returned (.tuple #[.int .i64 b,.bool x]):=by rw[h]
theorem A7L(l:List Int):rdB l 0=0:=by cases l<;>rfl
set_option maxHeartbeats 400000 in
theorem p5(l:List Int)(v:Value)(n k:Nat)(w:World)(hv:Ints .u8 w v l)(hb:Byt l)(hk:k≤4)(h:n+k≤l.length):Calls prog 104 #[v,.int .i64 n,.int .i64 k] w fun e w'=>e= .returned (.tuple #[.int .i64 (rdB (l.drop n) k),.bool true])∧w=w':=by
 have HV:=hid hv;have HB:=hid hb;obtain⟨a,c,rfl,h1,h2⟩:=hv.shape;clear hv hb;have hn:decide ((n:Int)<0)=false:=decide_eq_false (by omega);have hg:decide (l.length<n+k)=false:=decide_eq_false (by omega);have hw:wrap64 ((n:Int)+k)=(n:Int)+k:=IntWalk.wrap64_in _ (by omega);go_enter func104,ntmps104;go_wp2_with fail
 go_loopw[8,9] (fun s i wr=>∃(j:Nat) (q:Int),j≤k∧i= .int .i64 q∧q=(j:Int)-1∧s= .int .i64 (rdB (l.drop (n+j)) (k-j))∧w=wr) (fun _ i _=>(intOf i+1).toNat)
 case atStart=>exact⟨k,(k:Int)-1,Nat.le_refl _,by go_num,rfl,by rw[Nat.sub_self,A7L],rfl⟩
 case round=>
  obtain⟨j,q,hj,rfl,hq,rfl,rfl⟩:=hrel;rcases j with _|j
  ·have:q= -1:=by omega
   subst this;clear hq;rw[Nat.add_zero,Nat.sub_zero];generalize hr:rdB (l.drop n) k=r;have HR:=hid hr;clear hr;go_wp2_with fail
   go_ret2
   exact⟨A7y HR.out.symm,rfl⟩
  ·have:q=(j:Int):=by omega
   subst this;clear hq;have hlt:n+j<l.length:=by omega
   obtain⟨b,p,c',e',_,_,d0⟩:=HV.out.at hlt;cases e';have HX:Hid (256*rdB (l.drop (n+(j+1))) (k-(j+1))+l.getD (n+j) 0=rdB (l.drop (n+j)) (k-j)):=hid (by
    rw[show k-j=(k-(j+1))+1 by omega,A4O,Nat.add_assoc];omega)
   have hxb:=A5o HB.out (n+(j+1)) (k-(j+1)) (by omega);have hyb:=HB.out (n+j);generalize rdB (l.drop (n+(j+1))) (k-(j+1))=x at*
   generalize l.getD (n+j) 0=y at*
   have hlt':(n:Int)+j<l.length:=show((n+j:Nat):Int)<_ from Int.ofNat_lt.2 hlt
   go_wp2_with fail
   go_roundw
   case rel=>exact⟨j,(j:Int)-1,by omega,by go_num,rfl,by rw[←HX.out],by first|rfl|trivial⟩
   case measure=>simp[intOf]
theorem A1e(l:List Int)(v:Value)(n k:Nat)(w:World)(hv:Ints .u8 w v l)(hk:k≤4)(hn:n≤100)(h:l.length<n+k):Calls prog 104 #[v,.int .i64 n,.int .i64 k] w fun e w'=>e= .returned (.tuple #[.int .i64 0,.bool false])∧w=w':=by
 obtain⟨a,c,rfl,h1,h2⟩:=hv.shape;clear hv;have hn:decide ((n:Int)<0)=false:=decide_eq_false (by omega);have hg:decide (l.length<n+k)=true:=decide_eq_true (by omega);have hw:wrap64 ((n:Int)+k)=(n:Int)+k:=IntWalk.wrap64_in _ (by omega);go_enter func104,ntmps104;go_wp2_with fail
 go_ret2
 exact⟨rfl,rfl⟩
def nuB(l:List Int)(n k:Nat):Bool:=decide (n+k≤l.length)
theorem L5(l:List Int)(v:Value)(n k:Nat)(w:World)(hv:Ints .u8 w v l)(hb:Byt l)(hk:k≤4)(hn:n≤100):Calls prog 104 #[v,.int .i64 n,.int .i64 k] w fun e w'=>e= .returned (.tuple #[.int .i64 (nmR l n k),.bool (nuB l n k)])∧w=w':=by
 unfold nmR nuB;by_cases c:n+k≤l.length
 ·rw[if_pos c,decide_eq_true c];exact p5 l v n k w hv hb hk c
 ·rw[if_neg c,decide_eq_false c];exact A1e l v n k w hv hk hn (by omega)
theorem A3v(j:Int)(h:7≤j∧j≤13):L3 (N7 j)=j:=by
 have:j=7∨j=8∨j=9∨j=10∨j=11∨j=12∨j=13:=by omega
 rcases this with rfl|rfl|rfl|rfl|rfl|rfl|rfl<;>decide
theorem A5Y(c:Int)(h:∀j:Int,7≤j→j<14→N7 j≠c):L3 c=if c=137 then 0 else -1:=by
 have h7:c≠1:=fun e=>h 7 (by decide) (by decide) e.symm
 have h8:c≠9:=fun e=>h 8 (by decide) (by decide) e.symm
 have h9:c≠33:=fun e=>h 9 (by decide) (by decide) e.symm
 have h10:c≠41:=fun e=>h 10 (by decide) (by decide) e.symm
 have h11:c≠49:=fun e=>h 11 (by decide) (by decide) e.symm
 have h12:c≠57:=fun e=>h 12 (by decide) (by decide) e.symm
 have h13:c≠133:=fun e=>h 13 (by decide) (by decide) e.symm
 simp[L3,h7,h8,h9,h10,h11,h12,h13]
theorem A7H(o:Int):0≤N7 o∧N7 o<256:=by
 unfold N7;repeat' split
 all_goals omega
theorem A3r(c:Int)(w:World):Calls prog 107 #[.int .i64 c] w fun e w'=>e= .returned (.int .i64 (L3 c))∧w=w':=by
 go_enter func107,ntmps107;go_wp2_with fail
 go_loopw[3] (fun i wr=>∃j:Int,7≤j∧j≤14∧i= .int .i64 j∧Hid (∀o:Int,7≤o→o<j→N7 o≠c)∧w=wr) (fun i _=>(14-intOf i).toNat)
 case atStart=>exact⟨7,by decide,by decide,rfl,hid (fun o h1 h2=>absurd h1 (by omega)),rfl⟩
 case round=>
  obtain⟨j,h1,h2,rfl,hno,rfl⟩:=hrel;by_cases hj:j≤13
  ·have hd:decide (j≤13)=true:=decide_eq_true hj;have CA:=hid (t6 j w (by omega));have hu:=A7H j;have HT:Hid (L3 (N7 j)=j):=hid (A3v j ⟨h1,hj⟩);cases hc:(N7 j==c)
   ·have HN:Hid (∀o:Int,7≤o→o<j+1→N7 o≠c):=hid (fun o a b=>by
     by_cases e:o=j
     ·subst e;simpa using hc
     ·exact hno.out o a (by omega))
    generalize N7 j=x at*
    go_wp2_with((with_reducible refine(CA.out).mono ?_);rintro e w' ⟨rfl,rfl⟩)
    go_roundw
    case rel=>exact⟨j+1,by omega,by omega,by go_num,HN,by first|rfl|trivial⟩
    case measure=>simp[intOf];omega
   ·have HC:Hid (L3 c=j):=by
     have e:N7 j=c:=by simpa using hc
     show _=_
     rw[←e];exact HT.out
    generalize N7 j=x at*
    go_wp2_with((with_reducible refine(CA.out).mono ?_);rintro e w' ⟨rfl,rfl⟩)
    go_ret;exact⟨U6 HC.out.symm,rfl⟩
  ·obtain rfl:j=14:=by omega
   have HV:=hid (A5Y c (fun o a b=>hno.out o a b));cases hc:(c==137)
   ·have HE:Hid (L3 c= -1):=by show _=_;rw[HV.out,if_neg (by simpa using hc)]
    go_wp2_with fail
    go_ret;exact⟨U6 HE.out.symm,rfl⟩
   ·have HE:Hid (L3 c=0):=by show _=_;rw[HV.out,if_pos (by simpa using hc)]
    go_wp2_with fail
    go_ret;exact⟨U6 HE.out.symm,rfl⟩
def DigR(f t g:Int):Prop:=(f=14∧t=19∧(g=129∨g=131))∨(f=21∧t=23∧g=211)∨(f=24∧t=27∧g=247)
theorem DigR.hit{f t g:Int}(h:DigR f t g)(j:Int)(h1:f≤j)(h2:j≤t):B7 g (M7 j)=j:=by
 rcases h with⟨rfl,rfl,rfl|rfl⟩|⟨rfl,rfl,rfl⟩|⟨rfl,rfl,rfl⟩
 ·rcases(show j=14∨j=15∨j=16∨j=17∨j=18∨j=19 by omega)with rfl|rfl|rfl|rfl|rfl|rfl<;>decide
 ·rcases(show j=14∨j=15∨j=16∨j=17∨j=18∨j=19 by omega)with rfl|rfl|rfl|rfl|rfl|rfl<;>decide
 ·rcases(show j=21∨j=22∨j=23 by omega)with rfl|rfl|rfl<;>decide
 ·rcases(show j=24∨j=25∨j=26∨j=27 by omega)with rfl|rfl|rfl|rfl<;>decide
theorem DigR.no{f t g:Int}(h:DigR f t g)(n:Int)(hn:∀j:Int,f≤j→j<t+1→M7 j≠n):B7 g n= -1:=by
 rcases h with⟨rfl,rfl,rfl|rfl⟩|⟨rfl,rfl,rfl⟩|⟨rfl,rfl,rfl⟩
 ·have a0:n≠0:=fun e=>hn 14 (by decide) (by decide) e.symm
  have a1:n≠1:=fun e=>hn 15 (by decide) (by decide) e.symm
  have a4:n≠4:=fun e=>hn 16 (by decide) (by decide) e.symm
  have a5:n≠5:=fun e=>hn 17 (by decide) (by decide) e.symm
  have a6:n≠6:=fun e=>hn 18 (by decide) (by decide) e.symm
  have a7:n≠7:=fun e=>hn 19 (by decide) (by decide) e.symm
  simp[B7,a0,a1,a4,a5,a6,a7]
 ·have a0:n≠0:=fun e=>hn 14 (by decide) (by decide) e.symm
  have a1:n≠1:=fun e=>hn 15 (by decide) (by decide) e.symm
  have a4:n≠4:=fun e=>hn 16 (by decide) (by decide) e.symm
  have a5:n≠5:=fun e=>hn 17 (by decide) (by decide) e.symm
  have a6:n≠6:=fun e=>hn 18 (by decide) (by decide) e.symm
  have a7:n≠7:=fun e=>hn 19 (by decide) (by decide) e.symm
  simp[B7,a0,a1,a4,a5,a6,a7]
 ·have a4:n≠4:=fun e=>hn 21 (by decide) (by decide) e.symm
  have a5:n≠5:=fun e=>hn 22 (by decide) (by decide) e.symm
  have a7:n≠7:=fun e=>hn 23 (by decide) (by decide) e.symm
  simp[B7,a4,a5,a7]
 ·have a2:n≠2:=fun e=>hn 24 (by decide) (by decide) e.symm
  have a3:n≠3:=fun e=>hn 25 (by decide) (by decide) e.symm
  have a6:n≠6:=fun e=>hn 26 (by decide) (by decide) e.symm
  have a7:n≠7:=fun e=>hn 27 (by decide) (by decide) e.symm
  simp[B7,a2,a3,a6,a7]
theorem DigR.bd{f t g:Int}(h:DigR f t g):14≤f∧f≤t∧t≤27:=by
 rcases h with⟨rfl,rfl,_⟩|⟨rfl,rfl,rfl⟩|⟨rfl,rfl,rfl⟩<;>decide
theorem L1(f t g n:Int)(w:World)(hd:DigR f t g):Calls prog 108 #[.int .i64 f,.int .i64 t,.int .i64 n] w fun e w'=>e= .returned (.int .i64 (B7 g n))∧w=w':=by
 obtain⟨b1,b2,b3⟩:=hd.bd;have HD:=hid hd;clear hd;go_enter func108,ntmps108;go_wp2_with fail
 go_loopw[7] (fun i wr=>∃j:Int,f≤j∧j≤t+1∧i= .int .i64 j∧Hid (∀o:Int,f≤o→o<j→M7 o≠n)∧w=wr) (fun i _=>(t+1-intOf i).toNat)
 case atStart=>exact⟨f,Int.le_refl _,by omega,rfl,hid (fun o h1 h2=>absurd h1 (by omega)),rfl⟩
 case round=>
  obtain⟨j,h1,h2,rfl,hno,rfl⟩:=hrel;by_cases hj:j≤t
  ·have hd:decide (j≤t)=true:=decide_eq_true hj;have CA:=hid (M6 j w (by omega));have HT:Hid (B7 g (M7 j)=j):=hid (HD.out.hit j h1 hj);cases hc:(M7 j==n)
   ·have HN:Hid (∀o:Int,f≤o→o<j+1→M7 o≠n):=hid (fun o a b=>by
     by_cases e:o=j
     ·subst e;simpa using hc
     ·exact hno.out o a (by omega))
    generalize M7 j=x at*
    go_wp2_with((with_reducible refine(CA.out).mono ?_);rintro e w' ⟨rfl,rfl⟩)
    go_roundw
    case rel=>exact⟨j+1,by omega,by omega,by go_num,HN,by first|rfl|trivial⟩
    case measure=>simp[intOf];omega
   ·have HC:Hid (B7 g n=j):=by
     have e:M7 j=n:=by simpa using hc
     show _=_
     rw[←e];exact HT.out
    generalize M7 j=x at*
    go_wp2_with((with_reducible refine(CA.out).mono ?_);rintro e w' ⟨rfl,rfl⟩)
    go_ret;exact⟨U6 HC.out.symm,rfl⟩
  ·obtain rfl:j=t+1:=by omega
   have hd:decide (t+1≤t)=false:=decide_eq_false (by omega);have HE:Hid (B7 g n= -1):=hid (HD.out.no n (fun o a b=>hno.out o a b));go_wp2_with fail
   go_ret;exact⟨U6 HE.out.symm,rfl⟩
theorem A0r(l:List Int)(v:Value)(n k:Nat)(w:World)(hv:Ints .u8 w v l)(hk:k≤4)(hn:n≤4294967296)(h:l.length<n+k):Calls prog 104 #[v,.int .i64 n,.int .i64 k] w fun e w'=>e= .returned (.tuple #[.int .i64 0,.bool false])∧w=w':=by
 obtain⟨a,c,rfl,h1,h2⟩:=hv.shape;clear hv;have hn:decide ((n:Int)<0)=false:=decide_eq_false (by omega);have hg:decide (l.length<n+k)=true:=decide_eq_true (by omega);have hw:wrap64 ((n:Int)+k)=(n:Int)+k:=IntWalk.wrap64_in _ (by omega);go_enter func104,ntmps104;go_wp2_with fail
 go_ret2
 exact⟨rfl,rfl⟩
theorem A4c(l:List Int)(v:Value)(n k:Nat)(w:World)(hv:Ints .u8 w v l)(hb:Byt l)(hk:k≤4)(hn:n≤4294967296):Calls prog 104 #[v,.int .i64 n,.int .i64 k] w fun e w'=>e= .returned (.tuple #[.int .i64 (nmR l n k),.bool (nuB l n k)])∧w=w':=by
 unfold nmR nuB;by_cases c:n+k≤l.length
 ·rw[if_pos c,decide_eq_true c];exact p5 l v n k w hv hb hk c
 ·rw[if_neg c,decide_eq_false c];exact A0r l v n k w hv hk hn (by omega)
theorem k9{m:List Int}{q k:Nat}(h:q+k≤m.length):ldV m q k=nmR m q k:=by
 unfold ldV nmR;rw[if_pos h,←A2P];exact o9 k fun i hi=>by rw[List.getD_eq_getElem?_getD,List.getElem?_take,if_pos hi,←List.getD_eq_getElem?_getD]
theorem T5(c:Mac)(mv:Value)(s k:Nat)(i:Int)(w:World)(ho:MOk c)(hm:Ints .u8 w mv c.m)(hs:s<32)(hk:k≤4)(hi: -2147483648≤i∧i≤4294967295):Calls prog 88 #[.agg (A4 c mv).toArray,.int .i64 s,.int .i64 i,.int .i64 k] w fun e w'=>e= .returned (.tuple #[.int .i64 (nmR c.m (atM c s i).toNat k),.bool (nuB c.m (atM c s i).toNat k)])∧Below w.heap.size w w':=by
 obtain⟨hb,hc⟩:=M9 w (A4 c mv) 26;obtain⟨va,vc,hmv,hl1,hl2⟩:=hm.shape;have hv:=hm.stays hb;obtain⟨-,-,⟨c34,-⟩,-⟩:=hc.tails ho.rl;obtain⟨r0,r1⟩:=ho.rb s;have hsl:s<c.r.length:=by rw[ho.rl];exact hs
 have cs:=(hc s (.int .u32 (c.r.getD s 0)) (by unfold A4;rw[List.getElem?_append_left (by simpa using hsl),List.getElem?_map,List.getElem?_eq_getElem hsl,List.getD_eq_getElem?_getD,List.getElem?_eq_getElem hsl];rfl)).1;have at0:0≤atM c s i∧atM c s i<4294967296:=⟨Int.emod_nonneg _ (by decide),Int.emod_lt_of_pos _ (by decide)⟩
 have CW:=hid (fun wk=>show Calls _ _ #[.int .i64 (c.r.getD s 0+i)] wk (fun e w'=>e= .returned (.int .u32 ((atM c s i).toNat:Int))∧wk=w')by have:=J9 (c.r.getD s 0+i) wk (by unfold I64;omega);rw[show(c.r.getD s 0+i)%4294967296=((atM c s i).toNat:Int)by show atM c s i=_;omega]at this;exact this);have CN:=hid (fun n=>A4c c.m mv (atM c s i).toNat k ((w.alloc (.cells (A4 c mv).toArray 26)).drewN n) (hv.stays (A9 (Below.refl _ _) n)) ho.mb hk (by omega));have HB:=hid hb;have hlt:w.heap.size<(w.alloc (.cells (A4 c mv).toArray 26)).heap.size:=by simp
 have q2:(((atM c s i).toNat:Nat):Int)<4294967296:=by omega
 generalize nmR c.m (atM c s i).toNat k=n at*
 generalize nuB c.m (atM c s i).toNat k=b at*
 generalize(atM c s i).toNat=q at*
 generalize c.r.getD s 0=r at*
 have hs1:(s:Int)<32:=by omega
 obtain⟨i0,i1⟩:=hi;generalize A4 c mv=csx at*
 subst hmv;generalize c.m.length=len at*
 obtain⟨W1,hW1⟩:∃W,w.alloc (.cells csx.toArray 26)=W:=⟨_,rfl⟩
 rw[hW1]at c34 cs CN HB hlt;clear hc hv hm ho at0 hsl hb hl1 hl2 hs;go_enter func88,ntmps88;go_wp2_with fail
 go_quiet(first|(go_at_call 50;with_reducible exact B8 (CW.out _))|(go_at_call 104;with_reducible exact B8 (CN.out _)))
 go_wp2_with fail
 go_ret2
 exact⟨rfl,A9 HB.out _⟩
theorem A3B(y:Int)(l:List Int):∀(m:List Int) (q:Nat),M0 m q (l++[y])=(M0 m q l).set (q+l.length) y:=by
 induction l with
 |nil=>intro m q;rfl
 |cons a l ih=>intro m q;show M0 (m.set q a) (q+1) (l++[y])=_;rw[ih];show _=(M0 (m.set q a) (q+1) l).set (q+(l.length+1)) y;rw[show q+1+l.length=q+(l.length+1)by omega]
theorem MM.setM1{base M:Nat}{mv:Value}{c:Mac}{w:World}(h:MM base M mv c w){D cap:Nat}(hmv:mv= .slice (some ⟨D,0,none⟩) c.m.length cap){q:Nat}{y:Int}(hq:q<c.m.length)(y0:0≤y)(y1:y<256):MM base M mv {c with m:=c.m.set q y} (w.setCell ⟨D,q,none⟩ (.int .u8 y)):=by
 rcases h.v with⟨e,_⟩|⟨D',cap',e,h1,h2,h4,h5,h6⟩
 ·rw[e]at hq;exact absurd hq (by simp)
 ·have e2:=hmv.symm.trans e;injection e2 with e3 e4 e5
  injection e3 with e6
  injection e6 with e7
  subst e7;refine{h with m:=h.m.other h4.symm _,v:=Or.inr ⟨D,cap',?_,?_,h2,h4,h5,h6.set hq y⟩,ml:=by simpa using h.ml,mb:=fun k=>?_}
  ·rw[e];simp
  ·simpa using h1
  ·show 0≤(c.m.set q y).getD k 0∧_
   by_cases ek:q=k
   ·subst ek;rw[List.getD_eq_getElem?_getD,List.getElem?_set_self hq];exact⟨y0,y1⟩
   ·rw[List.getD_eq_getElem?_getD,List.getElem?_set_ne ek,←List.getD_eq_getElem?_getD];exact h.mb k
theorem MM.where{base M:Nat}{mv:Value}{c:Mac}{w:World}(h:MM base M mv c w)(h0:0<c.m.length):∃D cap,mv= .slice (some ⟨D,0,none⟩) c.m.length cap∧c.m.length≤cap∧D≠M∧OInts .u8 w D c.m:=by
 rcases h.v with⟨e,_⟩|⟨D,cap,e,h1,h2,h4,h5,h6⟩
 ·rw[e]at h0;exact absurd h0 (by simp)
 ·exact⟨D,cap,e,h1,h4,h6⟩
theorem Z5(base M:Nat)(mv:Value)(c:Mac)(d k:Nat)(i n:Int)(w:World)(h:MM base M mv c w)(hd:d<32)(hk:k≤4)(hi: -2147483648≤i∧i≤4294967295)(hb:c.m.length<(atM c d i).toNat+k):Calls prog 89 #[.pointer (some ⟨M,0,none⟩),.int .i64 d,.int .i64 i,.int .i64 n,.int .i64 k] w fun e w'=>e= .returned (.bool false)∧w=w':=by
 obtain⟨hr,-⟩:=h.reg hd;have hM:=h.ltM;obtain⟨r0,r1⟩:=h.rb d;have hml:=h.ml;have c34:=(h.tailAt 2 _ rfl).1;obtain⟨va,vc,hmv,hl1,hl2⟩:=h.ints.shape;have at0:0≤atM c d i∧atM c d i<4294967296:=⟨Int.emod_nonneg _ (by decide),Int.emod_lt_of_pos _ (by decide)⟩
 have CW:=hid (fun wk=>show Calls _ _ #[.int .i64 (c.r.getD d 0+i)] wk (fun e w'=>e= .returned (.int .u32 ((atM c d i).toNat:Int))∧wk=w')by have:=J9 (c.r.getD d 0+i) wk (by unfold I64;omega);rw[show(c.r.getD d 0+i)%4294967296=((atM c d i).toNat:Int)by show atM c d i=_;omega]at this;exact this);have q2:(((atM c d i).toNat:Nat):Int)<4294967296:=by omega
 have hd1:(d:Int)<32:=by omega
 rw[hmv]at c34;have d1:decide ((c.m.length:Int)<(((atM c d i).toNat:Nat):Int)+(k:Int))=true:=decide_eq_true (by omega);have d2:decide (c.m.length<(atM c d i).toNat+k)=true:=decide_eq_true (by omega);generalize(atM c d i).toNat=q at*
 generalize c.r.getD d 0=r at*
 generalize c.m.length=len at*
 obtain⟨i0,i1⟩:=hi;clear at0 h hd hl1 hl2 hmv hb;go_enter func89,ntmps89;go_wp2_with((with_reducible refine(CW.out _).mono ?_);rintro e wk ⟨rfl,rfl⟩)
 go_ret;exact⟨rfl,rfl⟩
theorem Z4(base M:Nat)(mv:Value)(c:Mac)(d k:Nat)(i n:Int)(w:World)(h:MM base M mv c w)(hd:d<32)(hk0:0<k)(hk:k≤4)(hi: -2147483648≤i∧i≤4294967295)(hn:I64 n)(hb:(atM c d i).toNat+k≤c.m.length):Calls prog 89 #[.pointer (some ⟨M,0,none⟩),.int .i64 d,.int .i64 i,.int .i64 n,.int .i64 k] w fun e w'=>e= .returned (.bool true)∧MM base M mv {c with m:=M0 c.m (atM c d i).toNat (leB n k)} w'∧Ch M M mv w w':=by
 obtain⟨hr,-⟩:=h.reg hd;have hM:=h.ltM;obtain⟨r0,r1⟩:=h.rb d;have hml:=h.ml;have c34:=(h.tailAt 2 _ rfl).1;obtain⟨va,vc,hmv,hl1,hl2⟩:=h.ints.shape;have at0:0≤atM c d i∧atM c d i<4294967296:=⟨Int.emod_nonneg _ (by decide),Int.emod_lt_of_pos _ (by decide)⟩
 have CW:=hid (fun wk=>show Calls _ _ #[.int .i64 (c.r.getD d 0+i)] wk (fun e w'=>e= .returned (.int .u32 ((atM c d i).toNat:Int))∧wk=w')by have:=J9 (c.r.getD d 0+i) wk (by unfold I64;omega);rw[show(c.r.getD d 0+i)%4294967296=((atM c d i).toNat:Int)by show atM c d i=_;omega]at this;exact this);have q2:(((atM c d i).toNat:Nat):Int)<4294967296:=by omega
 have hd1:(d:Int)<32:=by omega
 obtain⟨D,cap,hmv2,hcap,hDM,hDI⟩:=h.where (by omega)
 have hDl:D<w.heap.size:=hDI.1;rw[hmv2]at c34;have d1:decide ((c.m.length:Int)<(((atM c d i).toNat:Nat):Int)+(k:Int))=false:=decide_eq_false (by omega);have d2:decide (c.m.length<(atM c d i).toNat+k)=false:=decide_eq_false (by omega);have CL:=hid (fun wk=>J6 n k wk hn (by omega));have HLB:=hid (i7 k n);have HLL:=hid (I2 k n);have H:=hid h;have HMV:=hid hmv2;generalize leB n k=bs at*
 generalize(atM c d i).toNat=q at*
 generalize c.r.getD d 0=r at*
 obtain⟨i0,i1⟩:=hi;clear at0 h hl1 hl2 hmv hmv2 hd hn;go_enter func89,ntmps89;go_wp2_with(first|((with_reducible refine(CW.out _).mono ?_);rintro e wk ⟨rfl,rfl⟩)|((with_reducible refine(CL.out _).mono ?_);rintro e w1 ⟨v1,rfl,hr1,hb1⟩;have HR1:=hid hr1.memO;have HB1:=hid hb1;clear hr1;obtain⟨va1,vc1,vl1,hv1e⟩:=HR1.out.isSlice;subst hv1e))
 go_loopw[13] (fun i wr=>∃j:Nat,j≤k∧i= .int .i64 j∧MM base M mv {c with m:=M0 c.m q (bs.take j)} wr∧Ch M M mv w wr∧MemO w.heap.size wr (.slice va1 vc1 vl1) bs) (fun i _=>k-(intOf i).toNat)
 case atStart=>exact⟨0,Nat.zero_le _,rfl,by first|exact H.out.same HB1.out|simpa using H.out.same HB1.out,Ch.of_below HB1.out,HR1.out⟩
 case round=>
  obtain⟨j,hj,rfl,hmj,hcj,hoj⟩:=hrel;have hmlen:=A4Z (bs.take j) c.m q;have k34:=(hmj.tailAt 2 _ rfl).1;rw[HMV.out]at k34;have hMr:=hmj.ltM;by_cases hlt:j<k
  ·have hbl:bs.length=k:=HLL.out;obtain⟨D',cap',e',hc',hDM',hDI'⟩:=hmj.where (by show 0<(M0 c.m q (bs.take j)).length;omega)
   have eD:D'=D:=by
    have:=e'.symm.trans HMV.out;injection this with e3 e4 e5
    injection e3 with e6
    injection e6 with e7
   subst eD;rcases hoj with⟨e0,_⟩|⟨D1,cap1,e1,g1,g2,g5,g6⟩
   ·rw[e0]at hbl;simp at hbl;omega
   ·injection e1 with e3 e4 e5
    subst e3 e4 e5;have y0:=g6.cell (i:=j) (by omega);have hyb:=HLB.out (bs.getD j 0) (by rw[List.getD_eq_getElem?_getD,List.getElem?_eq_getElem (by omega)];exact List.getElem_mem _);have hset:=hmj.setM1 (D:=D') (cap:=cap) (q:=q+j) (y:=bs.getD j 0) (by show _=Value.slice _ (M0 c.m q (bs.take j)).length _;rw[hmlen];exact HMV.out) (by show q+j<(M0 c.m q (bs.take j)).length;omega) hyb.1 hyb.2;have htk:M0 c.m q (bs.take (j+1))=(M0 c.m q (bs.take j)).set (q+j) (bs.getD j 0):=by
     have e9:bs.take (j+1)=bs.take j++[bs.getD j 0]:=by rw[List.take_add_one,List.getElem?_eq_getElem (by omega),List.getD_eq_getElem?_getD,List.getElem?_eq_getElem (by omega)];rfl
     rw[e9,A3B,List.length_take,Nat.min_eq_left (by omega)]
    have hset2:MM base M mv {c with m:=M0 c.m q (bs.take (j+1))} (wr.setCell ⟨D',q+j,none⟩ (.int .u8 (bs.getD j 0))):=by rw[htk];exact hset
    have HSET:=hid hset2;have HCH:=hid (hcj.setD (D:=D') (by rw[HMV.out];rfl) (q+j) (.int .u8 (bs.getD j 0)));have HOJ:=hid (MemO.set (Or.inr ⟨D1,vl1,rfl,g1,g2,g5,g6⟩:MemO w.heap.size wr (.slice (some ⟨D1,0,none⟩) bs.length vl1) bs) (b:=D') (j:=q+j) hDl (.int .u8 (bs.getD j 0)));have ed:=hDI'.cell (i:=q+j) (by show q+j<(M0 c.m q (bs.take j)).length;omega);have fd:=hDI'.free (i:=q+j) (by show q+j<(M0 c.m q (bs.take j)).length;omega);have hDw:D'<wr.heap.size:=hDI'.1;have hD1w:D1<wr.heap.size:=g6.1;have i1':(j:Int)<bs.length:=by omega
    have i2':(q:Int)+j<c.m.length:=by omega
    have hlt':(j:Int)<k:=by omega
    have i0':(0:Int)≤(q:Int)+j:=by omega
    simp only at ed fd;generalize bs.getD j 0=y at*
    clear hmj hcj g6 hset hset2 htk hDI' e' hbl hmlen;go_wp2_with fail
    go_region
    go_wp2_with fail
    go_roundw
    case rel=>exact⟨j+1,by omega,by go_num,by first|exact HSET.out|exact HSET.out.drew,by first|exact HCH.out|exact HCH.out.drew,by first|exact HOJ.out|exact HOJ.out.below (Below.refl _ _).drew⟩
    case measure=>simp[intOf];omega
  ·obtain rfl:j=k:=by omega
   have HF:=hid hmj;have HCJ:=hid hcj;clear hmj hcj hoj;go_wp2_with fail
   go_ret;exact⟨rfl,by have h9:=HF.out;rw[List.take_of_length_le (by rw[HLL.out];omega)]at h9;exact h9,HCJ.out⟩
end Go.Proofs.YtdojafpjipcbjaaGreat
