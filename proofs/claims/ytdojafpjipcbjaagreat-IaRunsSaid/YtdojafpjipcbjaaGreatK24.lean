/- -/
import Derived.Deep.CutRange
import Derived.Test.YtdojafpjipcbjaaGreatK8
import Derived.Test.YtdojafpjipcbjaaGreatK12
open Go.Proofs.Tryz
open Go.Lib (hid)
set_option maxRecDepth 100000
namespace Go.Proofs.YtdojafpjipcbjaaGreat
open Go.RowKit
set_option linter.unusedVariables false
set_option linter.unusedSimpArgs false
theorem B0x{p:Prop}(h:p:=by
 refine tk 14 ?_;refine rd1 5 (fun K hK=>?_);go_simp;refine hK.out _ _ kp (fun hHeld=>?_);clear hK K;try go_frame
 refine tk 15 ?_;refine tk 16 ?_;refine wpAnyH_done (by kernel_rfl) ?_ _;go_wp2_with fail
 go_ret2
 exact MRet.mk HOK.out.symm (fun h=>absurd h (by rw[HOK.out];simp)) (J3 HB.out)
 ):p:=h
theorem A8W{p:Prop}(h:p:=by
 refine wpAnyH_done (by kernel_rfl) ?_ _;go_wp2_with fail
 go_ret2
 exact MRet.mk HOK.out.symm (fun h=>absurd h (by rw[HOK.out];simp)) (A2 HB.out (by first|exact hs9|exact A9 hs9 1))
 ):p:=h
theorem B0g{p:Prop}(h:p:=by
 skip
 go_wp2_with((with_reducible first|refine(CisRd.out _).mono ?_|refine(CisRs.out _).mono ?_|refine(CisW4i.out _).mono ?_|refine(CMR.out _).mono ?_);rintro e w' ⟨rfl,rfl⟩)
 go_meet
 case rel=>exact⟨by simp[*],rfl⟩
 ):p:=h
theorem B0h{p:Prop}(h:p:=by
 refine hK.out _ _ kp (fun hHeld=>?_);clear hK K;try go_frame
 refine tk 13 ?_;refine sk 14 ?_;refine sk 15 ?_;refine sk 16 ?_;refine tk 17 ?_;refine tk 18 ?_;refine sk 19 ?_;refine sk 20 ?_;refine sk 21 ?_;refine tk 22 ?_;refine tk 23 ?_;refine sk 24 ?_;refine sk 25 ?_;refine sk 26 ?_;refine sk 27 ?_;refine sk 28 ?_;refine tk 29 ?_;refine tk 30 ?_;refine tk 31 ?_;exact A8W
 ):p:=h
theorem A8X{p:Prop}(h:p:=by
 cases rd
 all_goals
 skip
 go_wp2_with((with_reducible first|refine(CinZi.out _).mono ?_|refine(CisRd.out _).mono ?_|refine(CisRs.out _).mono ?_|refine(CisW4i.out _).mono ?_);rintro e w' ⟨rfl,rfl⟩)
 go_meet
 case rel=>exact⟨by simp[*],rfl⟩
 ):p:=h
theorem A5u{p:Prop}(h:p:=by
 refine hK.out _ _ kp (fun hHeld=>?_);clear hK K;try go_frame
 refine tk 13 ?_;refine tk 14 ?_;refine tk 15 ?_;refine rd1 16 (fun K hK=>?_)
 (go_simp;first|((with_reducible first|refine(CinZi.out _).mono ?_|refine(CisRd.out _).mono ?_|refine(CisRs.out _).mono ?_|refine(CisW4i.out _).mono ?_);rintro e w' ⟨rfl,rfl⟩)|((with_reducible refine(CY.out _ kp).mono ?_);rintro e w2 ⟨v2,rfl,hr2,hb2,hs2⟩;have HR2:=hid hr2;clear hr2))
 refine hK.out _ _ kp (fun hHeld=>?_);clear hK K;try go_frame
 refine tk 17 ?_;refine tk 18 ?_;refine tk 19 ?_;refine tk 20 ?_;refine tk 21 ?_;refine tk 22 ?_;refine tk 23 ?_;refine sk 24 ?_;refine sk 25 ?_;refine sk 26 ?_;refine sk 27 ?_;refine sk 28 ?_;refine tk 29 ?_;refine tk 30 ?_;refine tk 31 ?_;exact A8W
 ):p:=h
theorem A5v{p:Prop}(h:p:=by
 refine hK.out _ _ kp (fun hHeld=>?_);clear hK K;try go_frame
 refine tk 13 ?_;refine tk 14 ?_;refine tk 15 ?_;refine rd1 16 (fun K hK=>?_)
 (go_simp;first|((with_reducible first|refine(CinZi.out _).mono ?_|refine(CisRd.out _).mono ?_|refine(CisRs.out _).mono ?_|refine(CisW4i.out _).mono ?_);rintro e w' ⟨rfl,rfl⟩)|((with_reducible refine(CY.out _ kp).mono ?_);rintro e w2 ⟨v2,rfl,hr2,hb2,hs2⟩;have HR2:=hid hr2;clear hr2))
 refine hK.out _ _ kp (fun hHeld=>?_);clear hK K;try go_frame
 refine tk 17 ?_;refine tk 18 ?_;refine sk 19 ?_;refine sk 20 ?_;refine sk 21 ?_;refine tk 22 ?_;refine tk 23 ?_;refine sk 24 ?_;refine sk 25 ?_;refine sk 26 ?_;refine sk 27 ?_;refine sk 28 ?_;refine tk 29 ?_;refine tk 30 ?_;refine tk 31 ?_;exact A8W
 ):p:=h
theorem A5w{p:Prop}(h:p:=by
 refine hK.out _ _ kp (fun hHeld=>?_);clear hK K;try go_frame
 refine tk 13 ?_;refine tk 14 ?_;refine tk 15 ?_;refine rd1 16 (fun K hK=>?_)
 (go_simp;first|((with_reducible first|refine(CinZi.out _).mono ?_|refine(CisRd.out _).mono ?_|refine(CisRs.out _).mono ?_|refine(CisW4i.out _).mono ?_);rintro e w' ⟨rfl,rfl⟩)|((with_reducible refine(CY.out _ kp).mono ?_);rintro e w2 ⟨v2,rfl,hr2,hb2,hs2⟩;have HR2:=hid hr2;clear hr2))
 refine hK.out _ _ kp (fun hHeld=>?_);clear hK K;try go_frame
 refine tk 17 ?_;refine tk 18 ?_;refine tk 19 ?_;refine tk 20 ?_;refine tk 21 ?_;refine tk 22 ?_;refine tk 23 ?_;refine tk 24 ?_;refine tk 25 ?_;refine tk 26 ?_;refine tk 27 ?_;refine rd1 28 (fun K hK=>?_)
 (go_simp;first|((with_reducible first|refine(CinZi.out _).mono ?_|refine(CisRd.out _).mono ?_|refine(CisRs.out _).mono ?_|refine(CisW4i.out _).mono ?_);rintro e w' ⟨rfl,rfl⟩)|((with_reducible refine(CY.out _ kp).mono ?_);rintro e w2 ⟨v2,rfl,hr2,hb2,hs2⟩;have HR2:=hid hr2;clear hr2))
 refine hK.out _ _ kp (fun hHeld=>?_);clear hK K;try go_frame
 refine tk 29 ?_;refine tk 30 ?_;refine tk 31 ?_;refine wpAnyH_done (by kernel_rfl) ?_ _;go_wp2_with fail
 go_ret2
 exact MRet.mk HOK.out.symm (fun h=>RowI.to (RowI.mono HR9.out HB.out.size) (by first|rfl|(have hb1:=B2 h;simp[D2,D9,isR,isM,isL,isC,isB,C9,inZ]at hb1;simp[A5,IntKind.wrap_u8,IntKind.wrap_i64]<;>omega))) (A2 HB.out (by first|exact hs9|exact A9 hs9 1))
 ):p:=h
set_option maxHeartbeats 4000000 in
theorem B0R(d s z i:Int)(w:World)(hi:I64 i):Calls prog 109 #[.agg #[.int .i64 0,.int .i64 d,.int .i64 s,.int .i64 z,.int .i64 i]] w (MRet ⟨0,d,s,z,i⟩ w):=by
 obtain⟨W0,hW0⟩:∃W,w.alloc (.cells #[.int .i64 0,.int .i64 d,.int .i64 s,.int .i64 z,.int .i64 i] 61)=W:=⟨_,rfl⟩
 have HB:Hid (Below w.heap.size w W0):=by rw[←hW0];exact(Below.refl _ _).alloc (Nat.le_refl _) _
 have hlt0:w.heap.size<W0.heap.size:=by rw[←hW0];simp
 obtain⟨q0,q1,q2,q3,q4⟩:=F5 0 d s z i w W0 hW0;have h00:=Since.refl W0;have q0a:=q0 _ h00;have q1a:=q1 _ h00;have q2a:=q2 _ h00;have q3a:=q3 _ h00;have q4a:=q4 _ h00;have HK:Hid (okI ⟨0,d,s,z,i⟩=(((z==32||z==16))&&((isR d&&isR s))&&((i==0)))):=by show _=_;rw[Bool.eq_iff_iff];simp[okI,szI,D2,D9,isM,isR,isL,isC,isB,C9]<;>omega
 have CisRd:=hid (fun w=>B9 d w);have CisRs:=hid (fun w=>B9 s w);have CisW4i:=hid (fun w=>F7 i w);have CMR:=hid (fun w=>O3 s d w);obtain⟨wd,hwd⟩:∃b,(z==32)=b:=⟨_,rfl⟩
 obtain⟨wh,hwh⟩:∃b,(z==16)=b:=⟨_,rfl⟩
 try rw[hwd]at HK
 try rw[hwh]at HK
 obtain⟨rd,hrd⟩:∃b,isR d=b:=⟨_,rfl⟩
 rw[hrd]at CisRd;obtain⟨rs,hrs⟩:∃b,isR s=b:=⟨_,rfl⟩
 rw[hrs]at CisRs
 try rw[hrd]at HK
 try rw[hrs]at HK
 have HRD:=hid hrd;have HRS:=hid hrs;clear hrd hrs;go_enter func109,ntmps109;go_upto_region 2 with((with_reducible first|refine(CisRd.out _).mono ?_|refine(CisRs.out _).mono ?_|refine(CisW4i.out _).mono ?_|refine(CMR.out _).mono ?_);rintro e w' ⟨rfl,rfl⟩)
 go_cut[5]from 11 to 16 (fun b wx=>b= .bool (wd||wh)∧W0=wx)
 case first=>
  cases wd
  all_goals
  exact B0g
 case rest=>
  obtain⟨rfl,rfl⟩:=hcut;go_upto_region 3 with((with_reducible first|refine(CisRd.out _).mono ?_|refine(CisRs.out _).mono ?_|refine(CisW4i.out _).mono ?_|refine(CMR.out _).mono ?_);rintro e w' ⟨rfl,rfl⟩)
  go_cut[6]from 17 to 24 (fun b wx=>b= .bool (rd&&rs)∧W0=wx)
  case first=>
   cases rd
   all_goals
   exact B0g
  case rest=>
   obtain⟨rfl,rfl⟩:=hcut;generalize(wd||wh)=bt at*
   generalize(rd&&rs)=rg at*
   cases bt
   ·skip
    have HOK:Hid (okI ⟨0,d,s,z,i⟩=false):=by show _=_;have h:=HK.out;(try simp only[Bool.true_and,Bool.false_and,Bool.and_true,Bool.and_false]at h);exact h
    go_wp2_with((with_reducible first|refine(CisRd.out _).mono ?_|refine(CisRs.out _).mono ?_|refine(CisW4i.out _).mono ?_|refine(CMR.out _).mono ?_);rintro e w' ⟨rfl,rfl⟩)
    clear hW0;refine wp_region_held_drew (S:=(fun wk=>Since W0 wk)) (by kernel_rfl) kp (fun hHeld=>?_);refine tk 0 ?_;refine tk 1 ?_;refine tk 2 ?_;refine tk 3 ?_;refine tk 6 ?_;refine rd1 4 (fun K hK=>?_)
    (go_simp;first|((with_reducible first|refine(CisRd.out _).mono ?_|refine(CisRs.out _).mono ?_|refine(CisW4i.out _).mono ?_|refine(CMR.out _).mono ?_);rintro e w' ⟨rfl,rfl⟩))
    refine hK.out _ _ kp (fun hHeld=>?_);clear hK K;try go_frame
    refine tk 7 ?_;refine sk 8 ?_;refine tk 9 ?_;refine tk 10 ?_;refine sk 11 ?_;refine sk 12 ?_;refine sk 13 ?_;exact B0x
   ·skip
    cases rg
    ·skip
     have HOK:Hid (okI ⟨0,d,s,z,i⟩=false):=by show _=_;have h:=HK.out;(try simp only[Bool.true_and,Bool.false_and,Bool.and_true,Bool.and_false]at h);exact h
     go_wp2_with((with_reducible first|refine(CisRd.out _).mono ?_|refine(CisRs.out _).mono ?_|refine(CisW4i.out _).mono ?_|refine(CMR.out _).mono ?_);rintro e w' ⟨rfl,rfl⟩)
     clear hW0;refine wp_region_held_drew (S:=(fun wk=>Since W0 wk)) (by kernel_rfl) kp (fun hHeld=>?_);refine tk 0 ?_;refine tk 1 ?_;refine tk 2 ?_;refine tk 3 ?_;refine tk 6 ?_;refine rd1 4 (fun K hK=>?_)
     (go_simp;first|((with_reducible first|refine(CisRd.out _).mono ?_|refine(CisRs.out _).mono ?_|refine(CisW4i.out _).mono ?_|refine(CMR.out _).mono ?_);rintro e w' ⟨rfl,rfl⟩))
     refine hK.out _ _ kp (fun hHeld=>?_);clear hK K;try go_frame
     refine tk 7 ?_;refine tk 8 ?_;refine tk 9 ?_;refine tk 10 ?_;refine sk 11 ?_;refine sk 12 ?_;refine sk 13 ?_;exact B0x
    ·skip
     have HOK:Hid (okI ⟨0,d,s,z,i⟩=(i==0)):=by show _=_;have h:=HK.out;(try simp only[Bool.true_and,Bool.false_and,Bool.and_true,Bool.and_false]at h);exact h
     go_wp2_with((with_reducible first|refine(CisRd.out _).mono ?_|refine(CisRs.out _).mono ?_|refine(CisW4i.out _).mono ?_|refine(CMR.out _).mono ?_);rintro e w' ⟨rfl,rfl⟩)
     clear hW0;refine wp_region_held_drew (S:=(fun wk=>Since W0 wk)) (by kernel_rfl) kp (fun hHeld=>?_);refine tk 0 ?_;refine tk 1 ?_;refine tk 2 ?_;refine tk 3 ?_;refine tk 6 ?_;refine rd1 4 (fun K hK=>?_)
     (go_simp;first|((with_reducible first|refine(CisRd.out _).mono ?_|refine(CisRs.out _).mono ?_|refine(CisW4i.out _).mono ?_|refine(CMR.out _).mono ?_);rintro e w' ⟨rfl,rfl⟩))
     refine hK.out _ _ kp (fun hHeld=>?_);clear hK K;try go_frame
     refine tk 7 ?_;refine tk 8 ?_;refine tk 9 ?_;refine tk 10 ?_;refine tk 11 ?_;refine tk 12 ?_;refine tk 13 ?_;refine tk 14 ?_;refine rd1 5 (fun K hK=>?_);go_simp;refine hK.out _ _ kp (fun hHeld=>?_);clear hK K;try go_frame
     refine tk 15 ?_;refine tk 16 ?_;refine wpAnyH_done (by kernel_rfl) ?_ _;go_wp2_with fail
     go_ret2
     exact MRet.mk HOK.out.symm (fun h=>RowI.to (RowI.lit W0 #[_,_] [_,_] .u8 5 w.heap.size 2 HB.out.size rfl rfl (by unfold maxLen;simp)) (by first|rfl|(have hb1:=B2 h;simp[D2,D9,isR,isM,isL,isC,isB,C9,inZ]at hb1;simp[A5,IntKind.wrap_u8,IntKind.wrap_i64,N7,I1]<;>omega))) (J3 HB.out)
set_option maxHeartbeats 4000000 in
theorem A5n(d s i:Int)(w:World)(hi:I64 i):Calls prog 109 #[.agg #[.int .i64 1,.int .i64 d,.int .i64 s,.int .i64 8,.int .i64 i]] w (MRet ⟨1,d,s,8,i⟩ w):=by
 obtain⟨W0,hW0⟩:∃W,w.alloc (.cells #[.int .i64 1,.int .i64 d,.int .i64 s,.int .i64 8,.int .i64 i] 61)=W:=⟨_,rfl⟩
 have HB:Hid (Below w.heap.size w W0):=by rw[←hW0];exact(Below.refl _ _).alloc (Nat.le_refl _) _
 have hlt0:w.heap.size<W0.heap.size:=by rw[←hW0];simp
 obtain⟨q0,q1,q2,q3,q4⟩:=F5 1 d s 8 i w W0 hW0;have h00:=Since.refl W0;have q0a:=q0 _ h00;have q1a:=q1 _ h00;have q2a:=q2 _ h00;have q3a:=q3 _ h00;have q4a:=q4 _ h00;have CinZi:=hid (fun w=>Y5 i 8 w (by decide));have CisRd:=hid (fun w=>B9 d w);have CisRs:=hid (fun w=>B9 s w);have CisW4i:=hid (fun w=>F7 i w);have CY:Hid (∀wk,Since W0 wk→Calls prog 112 #[.int .i64 i,.int .i64 (IntKind.i64.wrap 1)] wk fun e w'=>∃v,e= .returned v∧RowI w' W0.heap.size 5 .u8 v (leB i 1)∧Below wk.heap.size wk w'∧Since W0 w'):=fun wk h=>J4 (J6 i 1 wk hi (by decide)) h
 have hml:(leB i 1).length=1:=by simp[mmB,A3]
 have HLEN:Hid (([(0:Int)]).length+(leB i 1).length≤100000):=by show _≤_;rw[hml];decide
 have HPOS:Hid (0<(leB i 1).length):=by show 0<_;omega
 have HY5:Hid ((leB i 1).length≤140737488351232):=by show _≤_;omega
 clear hml;obtain⟨rd,hrd⟩:∃b,isR d=b:=⟨_,rfl⟩
 rw[hrd]at CisRd;obtain⟨rs,hrs⟩:∃b,isR s=b:=⟨_,rfl⟩
 rw[hrs]at CisRs;have HRD:=hid hrd;have HRS:=hid hrs;clear hrd hrs;go_enter func109,ntmps109;go_upto_region 3 with((with_reducible first|refine(CinZi.out _).mono ?_|refine(CisRd.out _).mono ?_|refine(CisRs.out _).mono ?_|refine(CisW4i.out _).mono ?_);rintro e w' ⟨rfl,rfl⟩)
 go_cut[6]from 17 to 24 (fun b wx=>b= .bool (rd&&rs)∧W0=wx)
 case first=>
  exact A8X
 case rest=>
  obtain⟨rfl,rfl⟩:=hcut;generalize(rd&&rs)=rg at*
  have HOK:Hid (okI ⟨1,d,s,8,i⟩=false):=by show _=_;simp[okI,szI,D2,D9,isM]
  go_wp2_with((with_reducible first|refine(CinZi.out _).mono ?_|refine(CisRd.out _).mono ?_|refine(CisRs.out _).mono ?_|refine(CisW4i.out _).mono ?_);rintro e w' ⟨rfl,rfl⟩)
  clear hW0;refine wp_region_held_drew (S:=(fun wk=>Since W0 wk)) (by kernel_rfl) kp (fun hHeld=>?_);refine tk 0 ?_;refine tk 1 ?_;refine tk 2 ?_;refine tk 3 ?_;refine tk 5 ?_;refine tk 6 ?_;refine tk 7 ?_;refine tk 8 ?_;refine tk 9 ?_;refine tk 12 ?_;refine wpAnyH_ready (rs:=[4,10]) (by kernel_rfl) (by simp) ?_;refine A1 4 rfl (fun K hK=>?_) ?_
  ·go_simp;refine hK.out _ _ kp (fun hHeld=>?_);clear hK K;try go_frame
   refine rd1 10 (fun K hK=>?_)
   (go_simp;first|((with_reducible first|refine(CinZi.out _).mono ?_|refine(CisRd.out _).mono ?_|refine(CisRs.out _).mono ?_|refine(CisW4i.out _).mono ?_);rintro e w' ⟨rfl,rfl⟩)|((with_reducible refine(CY.out _ kp).mono ?_);rintro e w2 ⟨v2,rfl,hr2,hb2,hs2⟩;have HR2:=hid hr2;clear hr2))
   refine hK.out _ _ kp (fun hHeld=>?_);clear hK K;try go_frame
   refine rd1 11 (fun K hK=>?_)
   first|(refine ap [(IntKind.u8.wrap (IntKind.i64.wrap (184+d)))] (RowI.below (rl1 (IntKind.u8.wrap (IntKind.i64.wrap (184+d)))) hb2) (leB i 1) (HR2.out.ints HY5.out) HPOS.out HLEN.out hs2.size (fun v9 w9 HR9 hb9 hs9=>?_))|(refine ap [(IntKind.u8.wrap (IntKind.i64.wrap (184+d)))] (RowI.below (X5 (IntKind.u8.wrap (IntKind.i64.wrap (184+d)))) hb2) (leB i 1) (HR2.out.ints HY5.out) HPOS.out HLEN.out hs2.size (fun v9 w9 HR9 hb9 hs9=>?_))
   exact B0h
  refine A1 10 rfl (fun K hK=>?_) ?_
  ·(go_simp;first|((with_reducible first|refine(CinZi.out _).mono ?_|refine(CisRd.out _).mono ?_|refine(CisRs.out _).mono ?_|refine(CisW4i.out _).mono ?_);rintro e w' ⟨rfl,rfl⟩)|((with_reducible refine(CY.out _ kp).mono ?_);rintro e w2 ⟨v2,rfl,hr2,hb2,hs2⟩;have HR2:=hid hr2;clear hr2))
   refine hK.out _ _ kp (fun hHeld=>?_);clear hK K;try go_frame
   refine rd1 4 (fun K hK=>?_);go_simp;refine hK.out _ _ kp (fun hHeld=>?_);clear hK K;try go_frame
   refine rd1 11 (fun K hK=>?_)
   first|(refine ap [(IntKind.u8.wrap (IntKind.i64.wrap (184+d)))] (rl1 (IntKind.u8.wrap (IntKind.i64.wrap (184+d)))) (leB i 1) ((HR2.out.below bl1).ints HY5.out) HPOS.out HLEN.out (Nat.le_trans hs2.size (by simp)) (fun v9 w9 HR9 hb9 hs9=>?_))|(refine ap [(IntKind.u8.wrap (IntKind.i64.wrap (184+d)))] (X5 (IntKind.u8.wrap (IntKind.i64.wrap (184+d)))) (leB i 1) ((HR2.out.below f6).ints HY5.out) HPOS.out HLEN.out (Nat.le_trans hs2.size (by simp)) (fun v9 w9 HR9 hb9 hs9=>?_))
   exact B0h
  exact AllReadyH.nil
set_option maxHeartbeats 4000000 in
theorem A4M(d s i:Int)(w:World)(hi:I64 i):Calls prog 109 #[.agg #[.int .i64 1,.int .i64 d,.int .i64 s,.int .i64 16,.int .i64 i]] w (MRet ⟨1,d,s,16,i⟩ w):=by
 obtain⟨W0,hW0⟩:∃W,w.alloc (.cells #[.int .i64 1,.int .i64 d,.int .i64 s,.int .i64 16,.int .i64 i] 61)=W:=⟨_,rfl⟩
 have HB:Hid (Below w.heap.size w W0):=by rw[←hW0];exact(Below.refl _ _).alloc (Nat.le_refl _) _
 have hlt0:w.heap.size<W0.heap.size:=by rw[←hW0];simp
 obtain⟨q0,q1,q2,q3,q4⟩:=F5 1 d s 16 i w W0 hW0;have h00:=Since.refl W0;have q0a:=q0 _ h00;have q1a:=q1 _ h00;have q2a:=q2 _ h00;have q3a:=q3 _ h00;have q4a:=q4 _ h00;have CinZi:=hid (fun w=>Y5 i 16 w (by decide));have CisRd:=hid (fun w=>B9 d w);have CisRs:=hid (fun w=>B9 s w);have CisW4i:=hid (fun w=>F7 i w);have CY:Hid (∀wk,Since W0 wk→Calls prog 112 #[.int .i64 i,.int .i64 (IntKind.i64.wrap 2)] wk fun e w'=>∃v,e= .returned v∧RowI w' W0.heap.size 5 .u8 v (leB i 2)∧Below wk.heap.size wk w'∧Since W0 w'):=fun wk h=>J4 (J6 i 2 wk hi (by decide)) h
 have hml:(leB i 2).length=2:=by simp[mmB,A3]
 have HLEN:Hid (([(0:Int)]).length+(leB i 2).length≤100000):=by show _≤_;rw[hml];decide
 have HPOS:Hid (0<(leB i 2).length):=by show 0<_;omega
 have HY5:Hid ((leB i 2).length≤140737488351232):=by show _≤_;omega
 clear hml;obtain⟨rd,hrd⟩:∃b,isR d=b:=⟨_,rfl⟩
 rw[hrd]at CisRd;obtain⟨rs,hrs⟩:∃b,isR s=b:=⟨_,rfl⟩
 rw[hrs]at CisRs;have HRD:=hid hrd;have HRS:=hid hrs;clear hrd hrs;go_enter func109,ntmps109;go_upto_region 3 with((with_reducible first|refine(CinZi.out _).mono ?_|refine(CisRd.out _).mono ?_|refine(CisRs.out _).mono ?_|refine(CisW4i.out _).mono ?_);rintro e w' ⟨rfl,rfl⟩)
 go_cut[6]from 17 to 24 (fun b wx=>b= .bool (rd&&rs)∧W0=wx)
 case first=>
  exact A8X
 case rest=>
  obtain⟨rfl,rfl⟩:=hcut;generalize(rd&&rs)=rg at*
  cases rd
  ·skip
   have HOK:Hid (okI ⟨1,d,s,16,i⟩=false):=by show _=_;simp[okI,szI,D2,D9,isM,HRD.out]
   go_wp2_with((with_reducible first|refine(CinZi.out _).mono ?_|refine(CisRd.out _).mono ?_|refine(CisRs.out _).mono ?_|refine(CisW4i.out _).mono ?_);rintro e w' ⟨rfl,rfl⟩)
   clear hW0;refine wp_region_held_drew (S:=(fun wk=>Since W0 wk)) (by kernel_rfl) kp (fun hHeld=>?_);refine tk 0 ?_;refine tk 1 ?_;refine tk 2 ?_;refine tk 3 ?_;refine tk 5 ?_;refine tk 6 ?_;refine tk 7 ?_;refine tk 8 ?_;refine tk 9 ?_;refine tk 12 ?_;refine wpAnyH_ready (rs:=[4,10]) (by kernel_rfl) (by simp) ?_;refine A1 4 rfl (fun K hK=>?_) ?_
   ·go_simp;refine hK.out _ _ kp (fun hHeld=>?_);clear hK K;try go_frame
    refine rd1 10 (fun K hK=>?_)
    (go_simp;first|((with_reducible first|refine(CinZi.out _).mono ?_|refine(CisRd.out _).mono ?_|refine(CisRs.out _).mono ?_|refine(CisW4i.out _).mono ?_);rintro e w' ⟨rfl,rfl⟩)|((with_reducible refine(CY.out _ kp).mono ?_);rintro e w2 ⟨v2,rfl,hr2,hb2,hs2⟩;have HR2:=hid hr2;clear hr2))
    refine hK.out _ _ kp (fun hHeld=>?_);clear hK K;try go_frame
    refine rd1 11 (fun K hK=>?_)
    first|(refine ap [(IntKind.u8.wrap (IntKind.i64.wrap (184+d)))] (RowI.below (rl1 (IntKind.u8.wrap (IntKind.i64.wrap (184+d)))) hb2) (leB i 2) (HR2.out.ints HY5.out) HPOS.out HLEN.out hs2.size (fun v9 w9 HR9 hb9 hs9=>?_))|(refine ap [(IntKind.u8.wrap (IntKind.i64.wrap (184+d)))] (RowI.below (X5 (IntKind.u8.wrap (IntKind.i64.wrap (184+d)))) hb2) (leB i 2) (HR2.out.ints HY5.out) HPOS.out HLEN.out hs2.size (fun v9 w9 HR9 hb9 hs9=>?_))
    exact A5v
   refine A1 10 rfl (fun K hK=>?_) ?_
   ·(go_simp;first|((with_reducible first|refine(CinZi.out _).mono ?_|refine(CisRd.out _).mono ?_|refine(CisRs.out _).mono ?_|refine(CisW4i.out _).mono ?_);rintro e w' ⟨rfl,rfl⟩)|((with_reducible refine(CY.out _ kp).mono ?_);rintro e w2 ⟨v2,rfl,hr2,hb2,hs2⟩;have HR2:=hid hr2;clear hr2))
    refine hK.out _ _ kp (fun hHeld=>?_);clear hK K;try go_frame
    refine rd1 4 (fun K hK=>?_);go_simp;refine hK.out _ _ kp (fun hHeld=>?_);clear hK K;try go_frame
    refine rd1 11 (fun K hK=>?_)
    first|(refine ap [(IntKind.u8.wrap (IntKind.i64.wrap (184+d)))] (rl1 (IntKind.u8.wrap (IntKind.i64.wrap (184+d)))) (leB i 2) ((HR2.out.below bl1).ints HY5.out) HPOS.out HLEN.out (Nat.le_trans hs2.size (by simp)) (fun v9 w9 HR9 hb9 hs9=>?_))|(refine ap [(IntKind.u8.wrap (IntKind.i64.wrap (184+d)))] (X5 (IntKind.u8.wrap (IntKind.i64.wrap (184+d)))) (leB i 2) ((HR2.out.below f6).ints HY5.out) HPOS.out HLEN.out (Nat.le_trans hs2.size (by simp)) (fun v9 w9 HR9 hb9 hs9=>?_))
    exact A5v
   exact AllReadyH.nil
  ·skip
   cases heqs:(s==0)
   ·skip
    have HOK:Hid (okI ⟨1,d,s,16,i⟩=false):=by show _=_;simp[okI,szI,D2,D9,isM,HRD.out,heqs]
    go_wp2_with((with_reducible first|refine(CinZi.out _).mono ?_|refine(CisRd.out _).mono ?_|refine(CisRs.out _).mono ?_|refine(CisW4i.out _).mono ?_);rintro e w' ⟨rfl,rfl⟩)
    clear hW0;refine wp_region_held_drew (S:=(fun wk=>Since W0 wk)) (by kernel_rfl) kp (fun hHeld=>?_);refine tk 0 ?_;refine tk 1 ?_;refine tk 2 ?_;refine tk 3 ?_;refine tk 5 ?_;refine tk 6 ?_;refine tk 7 ?_;refine tk 8 ?_;refine tk 9 ?_;refine tk 12 ?_;refine wpAnyH_ready (rs:=[4,10]) (by kernel_rfl) (by simp) ?_;refine A1 4 rfl (fun K hK=>?_) ?_
    ·go_simp;refine hK.out _ _ kp (fun hHeld=>?_);clear hK K;try go_frame
     refine rd1 10 (fun K hK=>?_)
     (go_simp;first|((with_reducible first|refine(CinZi.out _).mono ?_|refine(CisRd.out _).mono ?_|refine(CisRs.out _).mono ?_|refine(CisW4i.out _).mono ?_);rintro e w' ⟨rfl,rfl⟩)|((with_reducible refine(CY.out _ kp).mono ?_);rintro e w2 ⟨v2,rfl,hr2,hb2,hs2⟩;have HR2:=hid hr2;clear hr2))
     refine hK.out _ _ kp (fun hHeld=>?_);clear hK K;try go_frame
     refine rd1 11 (fun K hK=>?_)
     first|(refine ap [(IntKind.u8.wrap (IntKind.i64.wrap (184+d)))] (RowI.below (rl1 (IntKind.u8.wrap (IntKind.i64.wrap (184+d)))) hb2) (leB i 2) (HR2.out.ints HY5.out) HPOS.out HLEN.out hs2.size (fun v9 w9 HR9 hb9 hs9=>?_))|(refine ap [(IntKind.u8.wrap (IntKind.i64.wrap (184+d)))] (RowI.below (X5 (IntKind.u8.wrap (IntKind.i64.wrap (184+d)))) hb2) (leB i 2) (HR2.out.ints HY5.out) HPOS.out HLEN.out hs2.size (fun v9 w9 HR9 hb9 hs9=>?_))
     exact A5u
    refine A1 10 rfl (fun K hK=>?_) ?_
    ·(go_simp;first|((with_reducible first|refine(CinZi.out _).mono ?_|refine(CisRd.out _).mono ?_|refine(CisRs.out _).mono ?_|refine(CisW4i.out _).mono ?_);rintro e w' ⟨rfl,rfl⟩)|((with_reducible refine(CY.out _ kp).mono ?_);rintro e w2 ⟨v2,rfl,hr2,hb2,hs2⟩;have HR2:=hid hr2;clear hr2))
     refine hK.out _ _ kp (fun hHeld=>?_);clear hK K;try go_frame
     refine rd1 4 (fun K hK=>?_);go_simp;refine hK.out _ _ kp (fun hHeld=>?_);clear hK K;try go_frame
     refine rd1 11 (fun K hK=>?_)
     first|(refine ap [(IntKind.u8.wrap (IntKind.i64.wrap (184+d)))] (rl1 (IntKind.u8.wrap (IntKind.i64.wrap (184+d)))) (leB i 2) ((HR2.out.below bl1).ints HY5.out) HPOS.out HLEN.out (Nat.le_trans hs2.size (by simp)) (fun v9 w9 HR9 hb9 hs9=>?_))|(refine ap [(IntKind.u8.wrap (IntKind.i64.wrap (184+d)))] (X5 (IntKind.u8.wrap (IntKind.i64.wrap (184+d)))) (leB i 2) ((HR2.out.below f6).ints HY5.out) HPOS.out HLEN.out (Nat.le_trans hs2.size (by simp)) (fun v9 w9 HR9 hb9 hs9=>?_))
     exact A5u
    exact AllReadyH.nil
   ·skip
    have HOK:Hid (okI ⟨1,d,s,16,i⟩=inZ i 16):=by show _=_;simp[okI,szI,D2,D9,isM,HRD.out,heqs]
    go_wp2_with((with_reducible first|refine(CinZi.out _).mono ?_|refine(CisRd.out _).mono ?_|refine(CisRs.out _).mono ?_|refine(CisW4i.out _).mono ?_);rintro e w' ⟨rfl,rfl⟩)
    clear hW0;refine wp_region_held_drew (S:=(fun wk=>Since W0 wk)) (by kernel_rfl) kp (fun hHeld=>?_);refine tk 0 ?_;refine tk 1 ?_;refine tk 2 ?_;refine tk 3 ?_;refine tk 5 ?_;refine tk 6 ?_;refine tk 7 ?_;refine tk 8 ?_;refine tk 9 ?_;refine tk 12 ?_;refine wpAnyH_ready (rs:=[4,10]) (by kernel_rfl) (by simp) ?_;refine A1 4 rfl (fun K hK=>?_) ?_
    ·go_simp;refine hK.out _ _ kp (fun hHeld=>?_);clear hK K;try go_frame
     refine rd1 10 (fun K hK=>?_)
     (go_simp;first|((with_reducible first|refine(CinZi.out _).mono ?_|refine(CisRd.out _).mono ?_|refine(CisRs.out _).mono ?_|refine(CisW4i.out _).mono ?_);rintro e w' ⟨rfl,rfl⟩)|((with_reducible refine(CY.out _ kp).mono ?_);rintro e w2 ⟨v2,rfl,hr2,hb2,hs2⟩;have HR2:=hid hr2;clear hr2))
     refine hK.out _ _ kp (fun hHeld=>?_);clear hK K;try go_frame
     refine rd1 11 (fun K hK=>?_)
     first|(refine ap [(IntKind.u8.wrap (IntKind.i64.wrap (184+d)))] (RowI.below (rl1 (IntKind.u8.wrap (IntKind.i64.wrap (184+d)))) hb2) (leB i 2) (HR2.out.ints HY5.out) HPOS.out HLEN.out hs2.size (fun v9 w9 HR9 hb9 hs9=>?_))|(refine ap [(IntKind.u8.wrap (IntKind.i64.wrap (184+d)))] (RowI.below (X5 (IntKind.u8.wrap (IntKind.i64.wrap (184+d)))) hb2) (leB i 2) (HR2.out.ints HY5.out) HPOS.out HLEN.out hs2.size (fun v9 w9 HR9 hb9 hs9=>?_))
     exact A5w
    refine A1 10 rfl (fun K hK=>?_) ?_
    ·(go_simp;first|((with_reducible first|refine(CinZi.out _).mono ?_|refine(CisRd.out _).mono ?_|refine(CisRs.out _).mono ?_|refine(CisW4i.out _).mono ?_);rintro e w' ⟨rfl,rfl⟩)|((with_reducible refine(CY.out _ kp).mono ?_);rintro e w2 ⟨v2,rfl,hr2,hb2,hs2⟩;have HR2:=hid hr2;clear hr2))
     refine hK.out _ _ kp (fun hHeld=>?_);clear hK K;try go_frame
     refine rd1 4 (fun K hK=>?_);go_simp;refine hK.out _ _ kp (fun hHeld=>?_);clear hK K;try go_frame
     refine rd1 11 (fun K hK=>?_)
     first|(refine ap [(IntKind.u8.wrap (IntKind.i64.wrap (184+d)))] (rl1 (IntKind.u8.wrap (IntKind.i64.wrap (184+d)))) (leB i 2) ((HR2.out.below bl1).ints HY5.out) HPOS.out HLEN.out (Nat.le_trans hs2.size (by simp)) (fun v9 w9 HR9 hb9 hs9=>?_))|(refine ap [(IntKind.u8.wrap (IntKind.i64.wrap (184+d)))] (X5 (IntKind.u8.wrap (IntKind.i64.wrap (184+d)))) (leB i 2) ((HR2.out.below f6).ints HY5.out) HPOS.out HLEN.out (Nat.le_trans hs2.size (by simp)) (fun v9 w9 HR9 hb9 hs9=>?_))
     exact A5w
    exact AllReadyH.nil
set_option maxHeartbeats 4000000 in
theorem A4L(d s i:Int)(w:World)(hi:I64 i):Calls prog 109 #[.agg #[.int .i64 1,.int .i64 d,.int .i64 s,.int .i64 32,.int .i64 i]] w (MRet ⟨1,d,s,32,i⟩ w):=by
 obtain⟨W0,hW0⟩:∃W,w.alloc (.cells #[.int .i64 1,.int .i64 d,.int .i64 s,.int .i64 32,.int .i64 i] 61)=W:=⟨_,rfl⟩
 have HB:Hid (Below w.heap.size w W0):=by rw[←hW0];exact(Below.refl _ _).alloc (Nat.le_refl _) _
 have hlt0:w.heap.size<W0.heap.size:=by rw[←hW0];simp
 obtain⟨q0,q1,q2,q3,q4⟩:=F5 1 d s 32 i w W0 hW0;have h00:=Since.refl W0;have q0a:=q0 _ h00;have q1a:=q1 _ h00;have q2a:=q2 _ h00;have q3a:=q3 _ h00;have q4a:=q4 _ h00;have CinZi:=hid (fun w=>Y5 i 32 w (by decide));have CisRd:=hid (fun w=>B9 d w);have CisRs:=hid (fun w=>B9 s w);have CisW4i:=hid (fun w=>F7 i w);have CY:Hid (∀wk,Since W0 wk→Calls prog 112 #[.int .i64 i,.int .i64 (IntKind.i64.wrap 4)] wk fun e w'=>∃v,e= .returned v∧RowI w' W0.heap.size 5 .u8 v (leB i 4)∧Below wk.heap.size wk w'∧Since W0 w'):=fun wk h=>J4 (J6 i 4 wk hi (by decide)) h
 have hml:(leB i 4).length=4:=by simp[mmB,A3]
 have HLEN:Hid (([(0:Int)]).length+(leB i 4).length≤100000):=by show _≤_;rw[hml];decide
 have HPOS:Hid (0<(leB i 4).length):=by show 0<_;omega
 have HY5:Hid ((leB i 4).length≤140737488351232):=by show _≤_;omega
 clear hml;obtain⟨rd,hrd⟩:∃b,isR d=b:=⟨_,rfl⟩
 rw[hrd]at CisRd;obtain⟨rs,hrs⟩:∃b,isR s=b:=⟨_,rfl⟩
 rw[hrs]at CisRs;have HRD:=hid hrd;have HRS:=hid hrs;clear hrd hrs;go_enter func109,ntmps109;go_upto_region 3 with((with_reducible first|refine(CinZi.out _).mono ?_|refine(CisRd.out _).mono ?_|refine(CisRs.out _).mono ?_|refine(CisW4i.out _).mono ?_);rintro e w' ⟨rfl,rfl⟩)
 go_cut[6]from 17 to 24 (fun b wx=>b= .bool (rd&&rs)∧W0=wx)
 case first=>
  exact A8X
 case rest=>
  obtain⟨rfl,rfl⟩:=hcut;generalize(rd&&rs)=rg at*
  cases rd
  ·skip
   have HOK:Hid (okI ⟨1,d,s,32,i⟩=false):=by show _=_;simp[okI,szI,D2,D9,isM,HRD.out]
   go_wp2_with((with_reducible first|refine(CinZi.out _).mono ?_|refine(CisRd.out _).mono ?_|refine(CisRs.out _).mono ?_|refine(CisW4i.out _).mono ?_);rintro e w' ⟨rfl,rfl⟩)
   clear hW0;refine wp_region_held_drew (S:=(fun wk=>Since W0 wk)) (by kernel_rfl) kp (fun hHeld=>?_);refine tk 0 ?_;refine tk 1 ?_;refine tk 2 ?_;refine tk 3 ?_;refine tk 5 ?_;refine tk 6 ?_;refine tk 7 ?_;refine tk 8 ?_;refine tk 9 ?_;refine tk 12 ?_;refine wpAnyH_ready (rs:=[4,10]) (by kernel_rfl) (by simp) ?_;refine A1 4 rfl (fun K hK=>?_) ?_
   ·go_simp;refine hK.out _ _ kp (fun hHeld=>?_);clear hK K;try go_frame
    refine rd1 10 (fun K hK=>?_)
    (go_simp;first|((with_reducible first|refine(CinZi.out _).mono ?_|refine(CisRd.out _).mono ?_|refine(CisRs.out _).mono ?_|refine(CisW4i.out _).mono ?_);rintro e w' ⟨rfl,rfl⟩)|((with_reducible refine(CY.out _ kp).mono ?_);rintro e w2 ⟨v2,rfl,hr2,hb2,hs2⟩;have HR2:=hid hr2;clear hr2))
    refine hK.out _ _ kp (fun hHeld=>?_);clear hK K;try go_frame
    refine rd1 11 (fun K hK=>?_)
    first|(refine ap [(IntKind.u8.wrap (IntKind.i64.wrap (184+d)))] (RowI.below (rl1 (IntKind.u8.wrap (IntKind.i64.wrap (184+d)))) hb2) (leB i 4) (HR2.out.ints HY5.out) HPOS.out HLEN.out hs2.size (fun v9 w9 HR9 hb9 hs9=>?_))|(refine ap [(IntKind.u8.wrap (IntKind.i64.wrap (184+d)))] (RowI.below (X5 (IntKind.u8.wrap (IntKind.i64.wrap (184+d)))) hb2) (leB i 4) (HR2.out.ints HY5.out) HPOS.out HLEN.out hs2.size (fun v9 w9 HR9 hb9 hs9=>?_))
    exact A5v
   refine A1 10 rfl (fun K hK=>?_) ?_
   ·(go_simp;first|((with_reducible first|refine(CinZi.out _).mono ?_|refine(CisRd.out _).mono ?_|refine(CisRs.out _).mono ?_|refine(CisW4i.out _).mono ?_);rintro e w' ⟨rfl,rfl⟩)|((with_reducible refine(CY.out _ kp).mono ?_);rintro e w2 ⟨v2,rfl,hr2,hb2,hs2⟩;have HR2:=hid hr2;clear hr2))
    refine hK.out _ _ kp (fun hHeld=>?_);clear hK K;try go_frame
    refine rd1 4 (fun K hK=>?_);go_simp;refine hK.out _ _ kp (fun hHeld=>?_);clear hK K;try go_frame
    refine rd1 11 (fun K hK=>?_)
    first|(refine ap [(IntKind.u8.wrap (IntKind.i64.wrap (184+d)))] (rl1 (IntKind.u8.wrap (IntKind.i64.wrap (184+d)))) (leB i 4) ((HR2.out.below bl1).ints HY5.out) HPOS.out HLEN.out (Nat.le_trans hs2.size (by simp)) (fun v9 w9 HR9 hb9 hs9=>?_))|(refine ap [(IntKind.u8.wrap (IntKind.i64.wrap (184+d)))] (X5 (IntKind.u8.wrap (IntKind.i64.wrap (184+d)))) (leB i 4) ((HR2.out.below f6).ints HY5.out) HPOS.out HLEN.out (Nat.le_trans hs2.size (by simp)) (fun v9 w9 HR9 hb9 hs9=>?_))
    exact A5v
   exact AllReadyH.nil
  ·skip
   cases heqs:(s==0)
   ·skip
    have HOK:Hid (okI ⟨1,d,s,32,i⟩=false):=by show _=_;simp[okI,szI,D2,D9,isM,HRD.out,heqs]
    go_wp2_with((with_reducible first|refine(CinZi.out _).mono ?_|refine(CisRd.out _).mono ?_|refine(CisRs.out _).mono ?_|refine(CisW4i.out _).mono ?_);rintro e w' ⟨rfl,rfl⟩)
    clear hW0;refine wp_region_held_drew (S:=(fun wk=>Since W0 wk)) (by kernel_rfl) kp (fun hHeld=>?_);refine tk 0 ?_;refine tk 1 ?_;refine tk 2 ?_;refine tk 3 ?_;refine tk 5 ?_;refine tk 6 ?_;refine tk 7 ?_;refine tk 8 ?_;refine tk 9 ?_;refine tk 12 ?_;refine wpAnyH_ready (rs:=[4,10]) (by kernel_rfl) (by simp) ?_;refine A1 4 rfl (fun K hK=>?_) ?_
    ·go_simp;refine hK.out _ _ kp (fun hHeld=>?_);clear hK K;try go_frame
     refine rd1 10 (fun K hK=>?_)
     (go_simp;first|((with_reducible first|refine(CinZi.out _).mono ?_|refine(CisRd.out _).mono ?_|refine(CisRs.out _).mono ?_|refine(CisW4i.out _).mono ?_);rintro e w' ⟨rfl,rfl⟩)|((with_reducible refine(CY.out _ kp).mono ?_);rintro e w2 ⟨v2,rfl,hr2,hb2,hs2⟩;have HR2:=hid hr2;clear hr2))
     refine hK.out _ _ kp (fun hHeld=>?_);clear hK K;try go_frame
     refine rd1 11 (fun K hK=>?_)
     first|(refine ap [(IntKind.u8.wrap (IntKind.i64.wrap (184+d)))] (RowI.below (rl1 (IntKind.u8.wrap (IntKind.i64.wrap (184+d)))) hb2) (leB i 4) (HR2.out.ints HY5.out) HPOS.out HLEN.out hs2.size (fun v9 w9 HR9 hb9 hs9=>?_))|(refine ap [(IntKind.u8.wrap (IntKind.i64.wrap (184+d)))] (RowI.below (X5 (IntKind.u8.wrap (IntKind.i64.wrap (184+d)))) hb2) (leB i 4) (HR2.out.ints HY5.out) HPOS.out HLEN.out hs2.size (fun v9 w9 HR9 hb9 hs9=>?_))
     exact A5u
    refine A1 10 rfl (fun K hK=>?_) ?_
    ·(go_simp;first|((with_reducible first|refine(CinZi.out _).mono ?_|refine(CisRd.out _).mono ?_|refine(CisRs.out _).mono ?_|refine(CisW4i.out _).mono ?_);rintro e w' ⟨rfl,rfl⟩)|((with_reducible refine(CY.out _ kp).mono ?_);rintro e w2 ⟨v2,rfl,hr2,hb2,hs2⟩;have HR2:=hid hr2;clear hr2))
     refine hK.out _ _ kp (fun hHeld=>?_);clear hK K;try go_frame
     refine rd1 4 (fun K hK=>?_);go_simp;refine hK.out _ _ kp (fun hHeld=>?_);clear hK K;try go_frame
     refine rd1 11 (fun K hK=>?_)
     first|(refine ap [(IntKind.u8.wrap (IntKind.i64.wrap (184+d)))] (rl1 (IntKind.u8.wrap (IntKind.i64.wrap (184+d)))) (leB i 4) ((HR2.out.below bl1).ints HY5.out) HPOS.out HLEN.out (Nat.le_trans hs2.size (by simp)) (fun v9 w9 HR9 hb9 hs9=>?_))|(refine ap [(IntKind.u8.wrap (IntKind.i64.wrap (184+d)))] (X5 (IntKind.u8.wrap (IntKind.i64.wrap (184+d)))) (leB i 4) ((HR2.out.below f6).ints HY5.out) HPOS.out HLEN.out (Nat.le_trans hs2.size (by simp)) (fun v9 w9 HR9 hb9 hs9=>?_))
     exact A5u
    exact AllReadyH.nil
   ·skip
    have HOK:Hid (okI ⟨1,d,s,32,i⟩=inZ i 32):=by show _=_;simp[okI,szI,D2,D9,isM,HRD.out,heqs]
    go_wp2_with((with_reducible first|refine(CinZi.out _).mono ?_|refine(CisRd.out _).mono ?_|refine(CisRs.out _).mono ?_|refine(CisW4i.out _).mono ?_);rintro e w' ⟨rfl,rfl⟩)
    clear hW0;refine wp_region_held_drew (S:=(fun wk=>Since W0 wk)) (by kernel_rfl) kp (fun hHeld=>?_);refine tk 0 ?_;refine tk 1 ?_;refine tk 2 ?_;refine tk 3 ?_;refine tk 5 ?_;refine tk 6 ?_;refine tk 7 ?_;refine tk 8 ?_;refine tk 9 ?_;refine tk 12 ?_;refine wpAnyH_ready (rs:=[4,10]) (by kernel_rfl) (by simp) ?_;refine A1 4 rfl (fun K hK=>?_) ?_
    ·go_simp;refine hK.out _ _ kp (fun hHeld=>?_);clear hK K;try go_frame
     refine rd1 10 (fun K hK=>?_)
     (go_simp;first|((with_reducible first|refine(CinZi.out _).mono ?_|refine(CisRd.out _).mono ?_|refine(CisRs.out _).mono ?_|refine(CisW4i.out _).mono ?_);rintro e w' ⟨rfl,rfl⟩)|((with_reducible refine(CY.out _ kp).mono ?_);rintro e w2 ⟨v2,rfl,hr2,hb2,hs2⟩;have HR2:=hid hr2;clear hr2))
     refine hK.out _ _ kp (fun hHeld=>?_);clear hK K;try go_frame
     refine rd1 11 (fun K hK=>?_)
     first|(refine ap [(IntKind.u8.wrap (IntKind.i64.wrap (184+d)))] (RowI.below (rl1 (IntKind.u8.wrap (IntKind.i64.wrap (184+d)))) hb2) (leB i 4) (HR2.out.ints HY5.out) HPOS.out HLEN.out hs2.size (fun v9 w9 HR9 hb9 hs9=>?_))|(refine ap [(IntKind.u8.wrap (IntKind.i64.wrap (184+d)))] (RowI.below (X5 (IntKind.u8.wrap (IntKind.i64.wrap (184+d)))) hb2) (leB i 4) (HR2.out.ints HY5.out) HPOS.out HLEN.out hs2.size (fun v9 w9 HR9 hb9 hs9=>?_))
     exact A5w
    refine A1 10 rfl (fun K hK=>?_) ?_
    ·(go_simp;first|((with_reducible first|refine(CinZi.out _).mono ?_|refine(CisRd.out _).mono ?_|refine(CisRs.out _).mono ?_|refine(CisW4i.out _).mono ?_);rintro e w' ⟨rfl,rfl⟩)|((with_reducible refine(CY.out _ kp).mono ?_);rintro e w2 ⟨v2,rfl,hr2,hb2,hs2⟩;have HR2:=hid hr2;clear hr2))
     refine hK.out _ _ kp (fun hHeld=>?_);clear hK K;try go_frame
     refine rd1 4 (fun K hK=>?_);go_simp;refine hK.out _ _ kp (fun hHeld=>?_);clear hK K;try go_frame
     refine rd1 11 (fun K hK=>?_)
     first|(refine ap [(IntKind.u8.wrap (IntKind.i64.wrap (184+d)))] (rl1 (IntKind.u8.wrap (IntKind.i64.wrap (184+d)))) (leB i 4) ((HR2.out.below bl1).ints HY5.out) HPOS.out HLEN.out (Nat.le_trans hs2.size (by simp)) (fun v9 w9 HR9 hb9 hs9=>?_))|(refine ap [(IntKind.u8.wrap (IntKind.i64.wrap (184+d)))] (X5 (IntKind.u8.wrap (IntKind.i64.wrap (184+d)))) (leB i 4) ((HR2.out.below f6).ints HY5.out) HPOS.out HLEN.out (Nat.le_trans hs2.size (by simp)) (fun v9 w9 HR9 hb9 hs9=>?_))
     exact A5w
    exact AllReadyH.nil
end Go.Proofs.YtdojafpjipcbjaaGreat
