/- -/
import Derived.Deep.CutRange
import Derived.Test.YtdojafpjipcbjaaGreatK8
import Derived.Test.YtdojafpjipcbjaaGreatK12
open Go.Proofs.Tryz
open Go.Lib (hid)
set_option maxRecDepth 100000
namespace Go.Proofs.YtdojafpjipcbjaaGreat
open Go.RowKit
set_option linter.unusedVariables false
set_option linter.unusedSimpArgs false
theorem A8R{p:Prop}(h:p:=by
 go_wp2_with((with_reducible first|refine(CisRd.out _).mono ?_|refine(CisRs.out _).mono ?_|refine(CMR.out _).mono ?_|refine(CDI.out _).mono ?_);rintro e w' ⟨rfl,rfl⟩)
 all_goals go_ret2
 all_goals exact MRet.mk HOK.out.symm (fun h=>absurd h (by rw[HOK.out];simp)) (O4 HB.out)):p:=h
theorem B0e{p:Prop}(h:p:=by
 go_wp2_with((with_reducible first|refine(CisRd.out _).mono ?_|refine(CisRs.out _).mono ?_|refine(CMR.out _).mono ?_|refine(CDI.out _).mono ?_);rintro e w' ⟨rfl,rfl⟩)
 all_goals go_ret2
 all_goals exact MRet.mk HOK.out.symm (fun h=>RowI.to (RowI.lit W0 #[_,_] [_,_] .u8 5 w.heap.size 2 HB.out.size rfl rfl (by unfold maxLen;simp)) (by first|rfl|(have hb1:=B2 h;simp[D2,D9,isR,isM,isL,isC,isB,C9,inZ]at hb1;simp[A5,IntKind.wrap_u8,IntKind.wrap_i64,N7,I1]<;>omega))) (O4 HB.out)):p:=h
theorem V1{p:Prop}(h:p:=by
 skip
 go_wp2_with((with_reducible first|refine(CisRd.out _).mono ?_|refine(CisRs.out _).mono ?_|refine(CMR.out _).mono ?_|refine(CDI.out _).mono ?_);rintro e w' ⟨rfl,rfl⟩)
 go_meet
 case rel=>exact⟨by simp[*],rfl⟩):p:=h
set_option maxHeartbeats 4000000 in
theorem A8G(d s z i:Int)(w:World)(hi:I64 i):Calls prog 110 #[.agg #[.int .i64 20,.int .i64 d,.int .i64 s,.int .i64 z,.int .i64 i]] w (MRet ⟨20,d,s,z,i⟩ w):=by
 obtain⟨W0,hW0⟩:∃W,w.alloc (.cells #[.int .i64 20,.int .i64 d,.int .i64 s,.int .i64 z,.int .i64 i] 61)=W:=⟨_,rfl⟩
 have HB:Hid (Below w.heap.size w W0):=by rw[←hW0];exact(Below.refl _ _).alloc (Nat.le_refl _) _
 have hlt0:w.heap.size<W0.heap.size:=by rw[←hW0];simp
 obtain⟨q0,q1,q2,q3,q4⟩:=F5 20 d s z i w W0 hW0;have h00:=Since.refl W0;have q0a:=q0 _ h00;have q1a:=q1 _ h00;have q2a:=q2 _ h00;have q3a:=q3 _ h00;have q4a:=q4 _ h00;have HK:Hid (okI ⟨20,d,s,z,i⟩=(((z==32))&&((isR d&&(isR s&&i==0))))):=by show _=_;rw[Bool.eq_iff_iff];simp[okI,szI,D2,D9,isM,isR,isL,isC,isB,C9]<;>omega
 have CisRd:=hid (fun w=>B9 d w);have CisRs:=hid (fun w=>B9 s w);have CMR:=hid (fun w=>O3 d s w);have CDI:Hid (∀w,Calls prog 155 #[.int .i64 20] w fun e w'=>e= .returned (.int .i64 (-1))∧w=w'):=fun w=>M6 20 w (by decide)
 obtain⟨wd,hwd⟩:∃b,(z==32)=b:=⟨_,rfl⟩
 obtain⟨wh,hwh⟩:∃b,(z==16)=b:=⟨_,rfl⟩
 try rw[hwd]at HK
 try rw[hwh]at HK
 obtain⟨rd,hrd⟩:∃b,isR d=b:=⟨_,rfl⟩
 rw[hrd]at CisRd;obtain⟨rs,hrs⟩:∃b,isR s=b:=⟨_,rfl⟩
 rw[hrs]at CisRs
 try rw[hrd]at HK
 try rw[hrs]at HK
 have HRD:=hid hrd;have HRS:=hid hrs;clear hrd hrs;obtain⟨s0,hs0⟩:∃b,(s==0)=b:=⟨_,rfl⟩
 try rw[hs0]at HK
 obtain⟨i0,hi0⟩:∃b,(i==0)=b:=⟨_,rfl⟩
 try rw[hi0]at HK
 go_enter func110,ntmps110;go_upto_region 2 with((with_reducible first|refine(CisRd.out _).mono ?_|refine(CisRs.out _).mono ?_|refine(CMR.out _).mono ?_|refine(CDI.out _).mono ?_);rintro e w' ⟨rfl,rfl⟩)
 go_cut[5]from 13 to 18 (fun b wx=>b= .bool (wd||wh)∧W0=wx)
 case first=>
  cases wd
  all_goals
  exact V1
 case rest=>
  obtain⟨rfl,rfl⟩:=hcut;go_upto_region 3 with((with_reducible first|refine(CisRd.out _).mono ?_|refine(CisRs.out _).mono ?_|refine(CMR.out _).mono ?_|refine(CDI.out _).mono ?_);rintro e w' ⟨rfl,rfl⟩)
  go_cut[6]from 19 to 31 (fun b wx=>b= .bool (rd&&(rs&&i0))∧W0=wx)
  case first=>
   cases rd
   ·exact V1
   ·skip
    cases rs
    all_goals
    exact V1
  case rest=>
   obtain⟨rfl,rfl⟩:=hcut;go_upto_region 4 with((with_reducible first|refine(CisRd.out _).mono ?_|refine(CisRs.out _).mono ?_|refine(CMR.out _).mono ?_|refine(CDI.out _).mono ?_);rintro e w' ⟨rfl,rfl⟩)
   go_cut[7]from 32 to 44 (fun b wx=>b= .bool (rd&&(s0&&i0))∧W0=wx)
   case first=>
    cases rd
    ·exact V1
    ·skip
     cases s0
     all_goals
     exact V1
   case rest=>
    obtain⟨rfl,rfl⟩:=hcut;generalize(rd&&(s0&&i0))=one at*
    generalize(rd&&(rs&&i0))=rg at*
    generalize(wd||wh)=bt at*
    cases wd
    ·skip
     have HOK:Hid (okI ⟨20,d,s,z,i⟩=false):=by show _=_;have h:=HK.out;(try simp only[Bool.true_and,Bool.false_and,Bool.and_true,Bool.and_false]at h);exact h
     exact A8R
    ·skip
     have HOK:Hid (okI ⟨20,d,s,z,i⟩=rg):=by show _=_;have h:=HK.out;(try simp only[Bool.true_and,Bool.false_and,Bool.and_true,Bool.and_false]at h);exact h
     go_wp2_with((with_reducible first|refine(CisRd.out _).mono ?_|refine(CisRs.out _).mono ?_|refine(CMR.out _).mono ?_|refine(CDI.out _).mono ?_);rintro e w' ⟨rfl,rfl⟩)
     all_goals go_ret2
     all_goals exact MRet.mk HOK.out.symm (fun h=>RowI.to (RowI.lit W0 #[_,_,_] [_,_,_] .u8 5 w.heap.size 3 HB.out.size rfl rfl (by unfold maxLen;simp)) (by first|rfl|(have hb1:=B2 h;simp[D2,D9,isR,isM,isL,isC,isB,C9,inZ]at hb1;simp[A5,IntKind.wrap_u8,IntKind.wrap_i64,N7,I1]<;>omega))) (O4 HB.out)
set_option maxHeartbeats 80000000 in
theorem X6(o D d s z i:Int)(w:World)(ho:(o=21∧D=4)∨(o=22∧D=5)∨(o=23∧D=7)∨(o=24∧D=2)∨(o=25∧D=3))(hi:I64 i):Calls prog 110 #[.agg #[.int .i64 o,.int .i64 d,.int .i64 s,.int .i64 z,.int .i64 i]] w (MRet ⟨o,d,s,z,i⟩ w):=by
 obtain⟨W0,hW0⟩:∃W,w.alloc (.cells #[.int .i64 o,.int .i64 d,.int .i64 s,.int .i64 z,.int .i64 i] 61)=W:=⟨_,rfl⟩
 have HB:Hid (Below w.heap.size w W0):=by rw[←hW0];exact(Below.refl _ _).alloc (Nat.le_refl _) _
 have hlt0:w.heap.size<W0.heap.size:=by rw[←hW0];simp
 obtain⟨q0,q1,q2,q3,q4⟩:=F5 o d s z i w W0 hW0;have h00:=Since.refl W0;have q0a:=q0 _ h00;have q1a:=q1 _ h00;have q2a:=q2 _ h00;have q3a:=q3 _ h00;have q4a:=q4 _ h00;have HK:Hid (okI ⟨o,d,s,z,i⟩=(((z==32||z==16))&&((isR d&&(s==0&&i==0))))):=by show _=_;rcases ho with⟨rfl,rfl⟩|⟨rfl,rfl⟩|⟨rfl,rfl⟩|⟨rfl,rfl⟩|⟨rfl,rfl⟩<;>rw[Bool.eq_iff_iff]<;>simp[okI,szI,D2,D9,isM,isR,isL,isC,isB,C9]<;>omega
 have CisRd:=hid (fun w=>B9 d w);have CisRs:=hid (fun w=>B9 s w);have CMR:=hid (fun w=>O3 D d w);have CDI:Hid (∀w,Calls prog 155 #[.int .i64 o] w fun e w'=>e= .returned (.int .i64 D)∧w=w'):=hid (fun w=>by have h:=M6 o w (by omega);rwa[show M7 o=D by rcases ho with⟨rfl,rfl⟩|⟨rfl,rfl⟩|⟨rfl,rfl⟩|⟨rfl,rfl⟩|⟨rfl,rfl⟩<;>rfl]at h);obtain⟨wd,hwd⟩:∃b,(z==32)=b:=⟨_,rfl⟩
 obtain⟨wh,hwh⟩:∃b,(z==16)=b:=⟨_,rfl⟩
 try rw[hwd]at HK
 try rw[hwh]at HK
 obtain⟨rd,hrd⟩:∃b,isR d=b:=⟨_,rfl⟩
 rw[hrd]at CisRd;obtain⟨rs,hrs⟩:∃b,isR s=b:=⟨_,rfl⟩
 rw[hrs]at CisRs
 try rw[hrd]at HK
 try rw[hrs]at HK
 have HRD:=hid hrd;have HRS:=hid hrs;clear hrd hrs;obtain⟨s0,hs0⟩:∃b,(s==0)=b:=⟨_,rfl⟩
 try rw[hs0]at HK
 obtain⟨i0,hi0⟩:∃b,(i==0)=b:=⟨_,rfl⟩
 try rw[hi0]at HK
 rcases ho with⟨rfl,hD⟩|⟨rfl,hD⟩|⟨rfl,hD⟩|⟨rfl,hD⟩|⟨rfl,hD⟩
 all_goals
  go_enter func110,ntmps110;go_upto_region 2 with((with_reducible first|refine(CisRd.out _).mono ?_|refine(CisRs.out _).mono ?_|refine(CMR.out _).mono ?_|refine(CDI.out _).mono ?_);rintro e w' ⟨rfl,rfl⟩)
  go_cut[5]from 13 to 18 (fun b wx=>b= .bool (wd||wh)∧W0=wx)
  case first=>
   cases wd
   all_goals
   exact V1
  case rest=>
   obtain⟨rfl,rfl⟩:=hcut;go_upto_region 3 with((with_reducible first|refine(CisRd.out _).mono ?_|refine(CisRs.out _).mono ?_|refine(CMR.out _).mono ?_|refine(CDI.out _).mono ?_);rintro e w' ⟨rfl,rfl⟩)
   go_cut[6]from 19 to 31 (fun b wx=>b= .bool (rd&&(rs&&i0))∧W0=wx)
   case first=>
    cases rd
    ·exact V1
    ·skip
     cases rs
     all_goals
     exact V1
   case rest=>
    obtain⟨rfl,rfl⟩:=hcut;go_upto_region 4 with((with_reducible first|refine(CisRd.out _).mono ?_|refine(CisRs.out _).mono ?_|refine(CMR.out _).mono ?_|refine(CDI.out _).mono ?_);rintro e w' ⟨rfl,rfl⟩)
    go_cut[7]from 32 to 44 (fun b wx=>b= .bool (rd&&(s0&&i0))∧W0=wx)
    case first=>
     cases rd
     ·exact V1
     ·skip
      cases s0
      all_goals
      exact V1
    case rest=>
     obtain⟨rfl,rfl⟩:=hcut;generalize(rd&&(s0&&i0))=one at*
     generalize(rd&&(rs&&i0))=rg at*
     generalize(wd||wh)=bt at*
     cases bt
     ·skip
      subst hD;have HOK:=HK.out
      try simp only[Bool.true_and,Bool.false_and,Bool.and_true,Bool.and_false]at HOK
      replace HOK:=hid HOK
      exact A8R
     ·skip
      subst hD;have HOK:=HK.out
      try simp only[Bool.true_and,Bool.false_and,Bool.and_true,Bool.and_false]at HOK
      replace HOK:=hid HOK
      exact B0e
set_option maxHeartbeats 80000000 in
theorem A2N(o D d s z i:Int)(w:World)(ho:(o=26∧D=6)∨(o=27∧D=7))(hi:I64 i):Calls prog 110 #[.agg #[.int .i64 o,.int .i64 d,.int .i64 s,.int .i64 z,.int .i64 i]] w (MRet ⟨o,d,s,z,i⟩ w):=by
 obtain⟨W0,hW0⟩:∃W,w.alloc (.cells #[.int .i64 o,.int .i64 d,.int .i64 s,.int .i64 z,.int .i64 i] 61)=W:=⟨_,rfl⟩
 have HB:Hid (Below w.heap.size w W0):=by rw[←hW0];exact(Below.refl _ _).alloc (Nat.le_refl _) _
 have hlt0:w.heap.size<W0.heap.size:=by rw[←hW0];simp
 obtain⟨q0,q1,q2,q3,q4⟩:=F5 o d s z i w W0 hW0;have h00:=Since.refl W0;have q0a:=q0 _ h00;have q1a:=q1 _ h00;have q2a:=q2 _ h00;have q3a:=q3 _ h00;have q4a:=q4 _ h00;have HK:Hid (okI ⟨o,d,s,z,i⟩=(((z==32))&&((isR d&&(s==0&&i==0))))):=by show _=_;rcases ho with⟨rfl,rfl⟩|⟨rfl,rfl⟩<;>rw[Bool.eq_iff_iff]<;>simp[okI,szI,D2,D9,isM,isR,isL,isC,isB,C9]<;>omega
 have CisRd:=hid (fun w=>B9 d w);have CisRs:=hid (fun w=>B9 s w);have CMR:=hid (fun w=>O3 D d w);have CDI:Hid (∀w,Calls prog 155 #[.int .i64 o] w fun e w'=>e= .returned (.int .i64 D)∧w=w'):=hid (fun w=>by have h:=M6 o w (by omega);rwa[show M7 o=D by rcases ho with⟨rfl,rfl⟩|⟨rfl,rfl⟩<;>rfl]at h);obtain⟨wd,hwd⟩:∃b,(z==32)=b:=⟨_,rfl⟩
 obtain⟨wh,hwh⟩:∃b,(z==16)=b:=⟨_,rfl⟩
 try rw[hwd]at HK
 try rw[hwh]at HK
 obtain⟨rd,hrd⟩:∃b,isR d=b:=⟨_,rfl⟩
 rw[hrd]at CisRd;obtain⟨rs,hrs⟩:∃b,isR s=b:=⟨_,rfl⟩
 rw[hrs]at CisRs
 try rw[hrd]at HK
 try rw[hrs]at HK
 have HRD:=hid hrd;have HRS:=hid hrs;clear hrd hrs;obtain⟨s0,hs0⟩:∃b,(s==0)=b:=⟨_,rfl⟩
 try rw[hs0]at HK
 obtain⟨i0,hi0⟩:∃b,(i==0)=b:=⟨_,rfl⟩
 try rw[hi0]at HK
 rcases ho with⟨rfl,hD⟩|⟨rfl,hD⟩
 all_goals
  go_enter func110,ntmps110;go_upto_region 2 with((with_reducible first|refine(CisRd.out _).mono ?_|refine(CisRs.out _).mono ?_|refine(CMR.out _).mono ?_|refine(CDI.out _).mono ?_);rintro e w' ⟨rfl,rfl⟩)
  go_cut[5]from 13 to 18 (fun b wx=>b= .bool (wd||wh)∧W0=wx)
  case first=>
   cases wd
   all_goals
   exact V1
  case rest=>
   obtain⟨rfl,rfl⟩:=hcut;go_upto_region 3 with((with_reducible first|refine(CisRd.out _).mono ?_|refine(CisRs.out _).mono ?_|refine(CMR.out _).mono ?_|refine(CDI.out _).mono ?_);rintro e w' ⟨rfl,rfl⟩)
   go_cut[6]from 19 to 31 (fun b wx=>b= .bool (rd&&(rs&&i0))∧W0=wx)
   case first=>
    cases rd
    ·exact V1
    ·skip
     cases rs
     all_goals
     exact V1
   case rest=>
    obtain⟨rfl,rfl⟩:=hcut;go_upto_region 4 with((with_reducible first|refine(CisRd.out _).mono ?_|refine(CisRs.out _).mono ?_|refine(CMR.out _).mono ?_|refine(CDI.out _).mono ?_);rintro e w' ⟨rfl,rfl⟩)
    go_cut[7]from 32 to 44 (fun b wx=>b= .bool (rd&&(s0&&i0))∧W0=wx)
    case first=>
     cases rd
     ·exact V1
     ·skip
      cases s0
      all_goals
      exact V1
    case rest=>
     obtain⟨rfl,rfl⟩:=hcut;generalize(rd&&(s0&&i0))=one at*
     generalize(rd&&(rs&&i0))=rg at*
     generalize(wd||wh)=bt at*
     cases wd
     ·skip
      subst hD;have HOK:=HK.out
      try simp only[Bool.true_and,Bool.false_and,Bool.and_true,Bool.and_false]at HOK
      replace HOK:=hid HOK
      exact A8R
     ·skip
      subst hD;have HOK:=HK.out
      try simp only[Bool.true_and,Bool.false_and,Bool.and_true,Bool.and_false]at HOK
      replace HOK:=hid HOK
      exact B0e
theorem A8c{p:Prop}(h:p:=by
 refine rd1 5 (fun K hK=>?_);go_simp;refine hK.out _ _ kp (fun hHeld=>?_);clear hK K;try go_frame
 refine tk 22 ?_;refine tk 23 ?_;exact A8O
 ):p:=h
theorem B0c{p:Prop}(h:p:=by
 refine rd1 15 (fun K hK=>?_)
 (go_simp;first|((with_reducible first|refine(CisLs.out _).mono ?_|refine(CisRd.out _).mono ?_|refine(CMR.out _).mono ?_);rintro e w' ⟨rfl,rfl⟩))
 refine hK.out _ _ kp (fun hHeld=>?_);clear hK K;try go_frame
 refine tk 16 ?_;refine tk 17 ?_;refine sk 18 ?_;refine sk 19 ?_;refine sk 20 ?_;refine tk 21 ?_;refine tk 22 ?_;refine tk 23 ?_;exact A8O):p:=h
theorem A8O{p:Prop}(h:p:=by
 refine wpAnyH_done (by kernel_rfl) ?_ _;go_wp2_with fail
 go_ret2
 exact MRet.mk HOK.out.symm (fun h=>absurd h (by rw[HOK.out];simp)) (J3 HB.out)):p:=h
theorem A8P{p:Prop}(h:p:=by
 skip
 go_wp2_with((with_reducible first|refine(CisLs.out _).mono ?_|refine(CisRd.out _).mono ?_|refine(CMR.out _).mono ?_);rintro e w' ⟨rfl,rfl⟩)
 go_meet
 case rel=>exact⟨by simp[*],rfl⟩):p:=h
theorem A8Q{p:Prop}(h:p:=by
 go_wp2_with fail
 all_goals go_ret2
 all_goals exact MRet.mk HOK.out.symm (fun h=>RowI.to (RowI.lit W0 #[_] [_] .u8 5 w.heap.size 1 HB.out.size rfl rfl (by unfold maxLen;simp)) (by first|rfl|(have hb1:=B2 h;simp[D2,D9,isR,isM,isL,isC,isB,C9,inZ]at hb1;simp[A5,IntKind.wrap_u8,IntKind.wrap_i64,N7,I1]<;>omega))) (O4 HB.out)):p:=h
theorem A5s{p:Prop}(h:p:=by
 cases d0
 ·skip
  go_wp2_with fail
  go_meet
  case rel=>exact⟨by simp[*],rfl⟩
 ·skip
  cases s0
  ·skip
   go_wp2_with fail
   go_meet
   case rel=>exact⟨by simp[*],rfl⟩
  ·skip
   cases i0
   all_goals
   skip
   go_wp2_with fail
   go_meet
   case rel=>exact⟨by simp[*],rfl⟩):p:=h
theorem B0d{p:Prop}(h:p:=by
 refine rd1 15 (fun K hK=>?_)
 (go_simp;first|((with_reducible first|refine(CisLs.out _).mono ?_|refine(CisRd.out _).mono ?_|refine(CMR.out _).mono ?_);rintro e w' ⟨rfl,rfl⟩))
 refine hK.out _ _ kp (fun hHeld=>?_);clear hK K;try go_frame
 refine tk 16 ?_;refine tk 17 ?_;refine tk 18 ?_;refine tk 19 ?_;refine tk 20 ?_;refine tk 21 ?_;refine tk 22 ?_;refine tk 23 ?_;refine wpAnyH_done (by kernel_rfl) ?_ _;go_wp2_with fail
 go_ret2
 exact MRet.mk HOK.out.symm (fun h=>RowI.to (RowI.lit W0 #[_,_,_] [_,_,_] .u8 5 w.heap.size 3 HB.out.size rfl rfl (by unfold maxLen;simp)) (by first|rfl|(have hb1:=B2 h;simp[D2,D9,isR,isM,isL,isC,isB,C9,inZ]at hb1;simp[A5,IntKind.wrap_u8,IntKind.wrap_i64,N7,I1]<;>omega))) (J3 HB.out)):p:=h
set_option maxHeartbeats 4000000 in
theorem A8F(d s z i:Int)(w:World)(hi:I64 i):Calls prog 111 #[.agg #[.int .i64 28,.int .i64 d,.int .i64 s,.int .i64 z,.int .i64 i]] w (MRet ⟨28,d,s,z,i⟩ w):=by
 obtain⟨W0,hW0⟩:∃W,w.alloc (.cells #[.int .i64 28,.int .i64 d,.int .i64 s,.int .i64 z,.int .i64 i] 61)=W:=⟨_,rfl⟩
 have HB:Hid (Below w.heap.size w W0):=by rw[←hW0];exact(Below.refl _ _).alloc (Nat.le_refl _) _
 have hlt0:w.heap.size<W0.heap.size:=by rw[←hW0];simp
 obtain⟨q0,q1,q2,q3,q4⟩:=F5 28 d s z i w W0 hW0;have h00:=Since.refl W0;have q0a:=q0 _ h00;have q1a:=q1 _ h00;have q2a:=q2 _ h00;have q3a:=q3 _ h00;have q4a:=q4 _ h00;have HK:Hid (okI ⟨28,d,s,z,i⟩=(((d==0&&(s==0&&(i==0&&z==32)))))):=by show _=_;rw[Bool.eq_iff_iff];simp[okI,szI,D2,D9,isM,isR,isL,isC,isB,C9]<;>omega
 obtain⟨wd,hwd⟩:∃b,(z==32)=b:=⟨_,rfl⟩
 try rw[hwd]at HK
 obtain⟨s0,hs0⟩:∃b,(s==0)=b:=⟨_,rfl⟩
 try rw[hs0]at HK
 obtain⟨i0,hi0⟩:∃b,(i==0)=b:=⟨_,rfl⟩
 try rw[hi0]at HK
 obtain⟨d0,hd0⟩:∃b,(d==0)=b:=⟨_,rfl⟩
 try rw[hd0]at HK
 go_enter func111,ntmps111;go_upto_region 2 with fail
 go_cut[5]from 9 to 24 (fun b wx=>b= .bool (d0&&(s0&&(i0&&wd)))∧W0=wx)
 case first=>
  exact A5s
 case rest=>
  obtain⟨rfl,rfl⟩:=hcut;generalize(d0&&(s0&&(i0&&wd)))=non at*
  have HOK:Hid (okI ⟨28,d,s,z,i⟩=non):=by show _=_;have h:=HK.out;(try simp only[Bool.true_and,Bool.false_and,Bool.and_true,Bool.and_false]at h);exact h
  exact A8Q
set_option maxHeartbeats 4000000 in
theorem A8D(d s z i:Int)(w:World)(hi:I64 i):Calls prog 111 #[.agg #[.int .i64 30,.int .i64 d,.int .i64 s,.int .i64 z,.int .i64 i]] w (MRet ⟨30,d,s,z,i⟩ w):=by
 obtain⟨W0,hW0⟩:∃W,w.alloc (.cells #[.int .i64 30,.int .i64 d,.int .i64 s,.int .i64 z,.int .i64 i] 61)=W:=⟨_,rfl⟩
 have HB:Hid (Below w.heap.size w W0):=by rw[←hW0];exact(Below.refl _ _).alloc (Nat.le_refl _) _
 have hlt0:w.heap.size<W0.heap.size:=by rw[←hW0];simp
 obtain⟨q0,q1,q2,q3,q4⟩:=F5 30 d s z i w W0 hW0;have h00:=Since.refl W0;have q0a:=q0 _ h00;have q1a:=q1 _ h00;have q2a:=q2 _ h00;have q3a:=q3 _ h00;have q4a:=q4 _ h00;have HK:Hid (okI ⟨30,d,s,z,i⟩=(((z==32))&&(isR d)&&(isL s)&&((i==0)))):=by show _=_;rw[Bool.eq_iff_iff];simp[okI,szI,D2,D9,isM,isR,isL,isC,isB,C9]<;>omega
 have CisLs:=hid (fun w=>y7 s w);have CisRd:=hid (fun w=>B9 d w);have CMR:=hid (fun w=>O3 d s w);obtain⟨wd,hwd⟩:∃b,(z==32)=b:=⟨_,rfl⟩
 try rw[hwd]at HK
 obtain⟨s0,hs0⟩:∃b,(s==0)=b:=⟨_,rfl⟩
 try rw[hs0]at HK
 obtain⟨i0,hi0⟩:∃b,(i==0)=b:=⟨_,rfl⟩
 try rw[hi0]at HK
 obtain⟨d0,hd0⟩:∃b,(d==0)=b:=⟨_,rfl⟩
 try rw[hd0]at HK
 go_enter func111,ntmps111;go_upto_region 2 with((with_reducible first|refine(CisLs.out _).mono ?_|refine(CisRd.out _).mono ?_|refine(CMR.out _).mono ?_);rintro e w' ⟨rfl,rfl⟩)
 go_cut[5]from 9 to 24 (fun b wx=>b= .bool (d0&&(s0&&(i0&&wd)))∧W0=wx)
 case first=>
  cases d0
  ·exact A8P
  ·skip
   cases s0
   ·exact A8P
   ·skip
    cases i0
    all_goals
    exact A8P
 case rest=>
  obtain⟨rfl,rfl⟩:=hcut;cases wd
  ·skip
   have HOK:Hid (okI ⟨30,d,s,z,i⟩=false):=by show _=_;have h:=HK.out;(try simp only[Bool.true_and,Bool.false_and,Bool.and_true,Bool.and_false]at h);exact h
   go_wp2_with((with_reducible first|refine(CisLs.out _).mono ?_|refine(CisRd.out _).mono ?_|refine(CMR.out _).mono ?_);rintro e w' ⟨rfl,rfl⟩)
   clear hW0;refine wp_region_held_drew (S:=(fun wk=>Since W0 wk)) (by kernel_rfl) kp (fun hHeld=>?_);refine tk 0 ?_;refine tk 1 ?_;refine tk 2 ?_;refine tk 3 ?_;refine tk 6 ?_;refine rd1 4 (fun K hK=>?_)
   (go_simp;first|((with_reducible first|refine(CisLs.out _).mono ?_|refine(CisRd.out _).mono ?_|refine(CMR.out _).mono ?_);rintro e w' ⟨rfl,rfl⟩))
   refine hK.out _ _ kp (fun hHeld=>?_);clear hK K;try go_frame
   refine tk 7 ?_;refine sk 8 ?_;refine sk 9 ?_;refine sk 10 ?_;refine tk 11 ?_;refine tk 12 ?_;refine sk 13 ?_;refine sk 14 ?_;refine sk 15 ?_;refine tk 16 ?_;refine tk 17 ?_;refine sk 18 ?_;refine sk 19 ?_;refine sk 20 ?_;refine tk 21 ?_;exact A8c
  ·skip
   cases hisRd:isR d
   ·rw[hisRd]at CisRd;rw[hisRd]at HK;have HisRd:=hid hisRd;clear hisRd;have HOK:Hid (okI ⟨30,d,s,z,i⟩=false):=by show _=_;have h:=HK.out;(try simp only[Bool.true_and,Bool.false_and,Bool.and_true,Bool.and_false]at h);exact h
    go_wp2_with((with_reducible first|refine(CisLs.out _).mono ?_|refine(CisRd.out _).mono ?_|refine(CMR.out _).mono ?_);rintro e w' ⟨rfl,rfl⟩)
    clear hW0;refine wp_region_held_drew (S:=(fun wk=>Since W0 wk)) (by kernel_rfl) kp (fun hHeld=>?_);refine tk 0 ?_;refine tk 1 ?_;refine tk 2 ?_;refine tk 3 ?_;refine tk 6 ?_;refine rd1 4 (fun K hK=>?_)
    (go_simp;first|((with_reducible first|refine(CisLs.out _).mono ?_|refine(CisRd.out _).mono ?_|refine(CMR.out _).mono ?_);rintro e w' ⟨rfl,rfl⟩))
    refine hK.out _ _ kp (fun hHeld=>?_);clear hK K;try go_frame
    refine tk 7 ?_;refine tk 8 ?_;refine tk 9 ?_;refine wpAnyH_ready (rs:=[5,10]) (by kernel_rfl) (by simp) ?_;refine A1 5 rfl (fun K hK=>?_) ?_
    ·go_simp;refine hK.out _ _ kp (fun hHeld=>?_);clear hK K;try go_frame
     refine rd1 10 (fun K hK=>?_)
     (go_simp;first|((with_reducible first|refine(CisLs.out _).mono ?_|refine(CisRd.out _).mono ?_|refine(CMR.out _).mono ?_);rintro e w' ⟨rfl,rfl⟩))
     refine hK.out _ _ kp (fun hHeld=>?_);clear hK K;try go_frame
     refine tk 11 ?_;refine tk 12 ?_;refine sk 13 ?_;refine sk 14 ?_;refine sk 15 ?_;refine tk 16 ?_;refine tk 17 ?_;refine sk 18 ?_;refine sk 19 ?_;refine sk 20 ?_;refine tk 21 ?_;refine tk 22 ?_;refine tk 23 ?_;exact A8O
    refine A1 10 rfl (fun K hK=>?_) ?_
    ·(go_simp;first|((with_reducible first|refine(CisLs.out _).mono ?_|refine(CisRd.out _).mono ?_|refine(CMR.out _).mono ?_);rintro e w' ⟨rfl,rfl⟩))
     refine hK.out _ _ kp (fun hHeld=>?_);clear hK K;try go_frame
     refine tk 11 ?_;refine tk 12 ?_;refine sk 13 ?_;refine sk 14 ?_;refine sk 15 ?_;refine tk 16 ?_;refine tk 17 ?_;refine sk 18 ?_;refine sk 19 ?_;refine sk 20 ?_;refine tk 21 ?_;exact A8c
    exact AllReadyH.nil
   ·rw[hisRd]at CisRd;rw[hisRd]at HK;have HisRd:=hid hisRd;clear hisRd;cases hisLs:isL s
    ·rw[hisLs]at CisLs;rw[hisLs]at HK;have HisLs:=hid hisLs;clear hisLs;have HOK:Hid (okI ⟨30,d,s,z,i⟩=false):=by show _=_;have h:=HK.out;(try simp only[Bool.true_and,Bool.false_and,Bool.and_true,Bool.and_false]at h);exact h
     go_wp2_with((with_reducible first|refine(CisLs.out _).mono ?_|refine(CisRd.out _).mono ?_|refine(CMR.out _).mono ?_);rintro e w' ⟨rfl,rfl⟩)
     clear hW0;refine wp_region_held_drew (S:=(fun wk=>Since W0 wk)) (by kernel_rfl) kp (fun hHeld=>?_);refine tk 0 ?_;refine tk 1 ?_;refine tk 2 ?_;refine tk 3 ?_;refine tk 6 ?_;refine rd1 4 (fun K hK=>?_)
     (go_simp;first|((with_reducible first|refine(CisLs.out _).mono ?_|refine(CisRd.out _).mono ?_|refine(CMR.out _).mono ?_);rintro e w' ⟨rfl,rfl⟩))
     refine hK.out _ _ kp (fun hHeld=>?_);clear hK K;try go_frame
     refine tk 7 ?_;refine tk 8 ?_;refine tk 9 ?_;refine wpAnyH_ready (rs:=[5,10]) (by kernel_rfl) (by simp) ?_;refine A1 5 rfl (fun K hK=>?_) ?_
     ·go_simp;refine hK.out _ _ kp (fun hHeld=>?_);clear hK K;try go_frame
      refine rd1 10 (fun K hK=>?_)
      (go_simp;first|((with_reducible first|refine(CisLs.out _).mono ?_|refine(CisRd.out _).mono ?_|refine(CMR.out _).mono ?_);rintro e w' ⟨rfl,rfl⟩))
      refine hK.out _ _ kp (fun hHeld=>?_);clear hK K;try go_frame
      refine tk 11 ?_;refine tk 12 ?_;refine tk 13 ?_;refine tk 14 ?_;exact B0c
     refine A1 10 rfl (fun K hK=>?_) ?_
     ·(go_simp;first|((with_reducible first|refine(CisLs.out _).mono ?_|refine(CisRd.out _).mono ?_|refine(CMR.out _).mono ?_);rintro e w' ⟨rfl,rfl⟩))
      refine hK.out _ _ kp (fun hHeld=>?_);clear hK K;try go_frame
      refine tk 11 ?_;refine tk 12 ?_;refine tk 13 ?_;refine tk 14 ?_;refine wpAnyH_ready (rs:=[5,15]) (by kernel_rfl) (by simp) ?_;refine A1 5 rfl (fun K hK=>?_) ?_
      ·go_simp;refine hK.out _ _ kp (fun hHeld=>?_);clear hK K;try go_frame
       exact B0c
      refine A1 15 rfl (fun K hK=>?_) ?_
      ·(go_simp;first|((with_reducible first|refine(CisLs.out _).mono ?_|refine(CisRd.out _).mono ?_|refine(CMR.out _).mono ?_);rintro e w' ⟨rfl,rfl⟩))
       refine hK.out _ _ kp (fun hHeld=>?_);clear hK K;try go_frame
       refine tk 16 ?_;refine tk 17 ?_;refine sk 18 ?_;refine sk 19 ?_;refine sk 20 ?_;refine tk 21 ?_;exact A8c
      exact AllReadyH.nil
     exact AllReadyH.nil
    ·rw[hisLs]at CisLs;rw[hisLs]at HK;have HisLs:=hid hisLs;clear hisLs;have HOK:Hid (okI ⟨30,d,s,z,i⟩=i0):=by show _=_;have h:=HK.out;(try simp only[Bool.true_and,Bool.false_and,Bool.and_true,Bool.and_false]at h);exact h
     go_wp2_with((with_reducible first|refine(CisLs.out _).mono ?_|refine(CisRd.out _).mono ?_|refine(CMR.out _).mono ?_);rintro e w' ⟨rfl,rfl⟩)
     clear hW0;refine wp_region_held_drew (S:=(fun wk=>Since W0 wk)) (by kernel_rfl) kp (fun hHeld=>?_);refine tk 0 ?_;refine tk 1 ?_;refine tk 2 ?_;refine tk 3 ?_;refine tk 6 ?_;refine rd1 4 (fun K hK=>?_)
     (go_simp;first|((with_reducible first|refine(CisLs.out _).mono ?_|refine(CisRd.out _).mono ?_|refine(CMR.out _).mono ?_);rintro e w' ⟨rfl,rfl⟩))
     refine hK.out _ _ kp (fun hHeld=>?_);clear hK K;try go_frame
     refine tk 7 ?_;refine tk 8 ?_;refine tk 9 ?_;refine wpAnyH_ready (rs:=[5,10]) (by kernel_rfl) (by simp) ?_;refine A1 5 rfl (fun K hK=>?_) ?_
     ·go_simp;refine hK.out _ _ kp (fun hHeld=>?_);clear hK K;try go_frame
      refine rd1 10 (fun K hK=>?_)
      (go_simp;first|((with_reducible first|refine(CisLs.out _).mono ?_|refine(CisRd.out _).mono ?_|refine(CMR.out _).mono ?_);rintro e w' ⟨rfl,rfl⟩))
      refine hK.out _ _ kp (fun hHeld=>?_);clear hK K;try go_frame
      refine tk 11 ?_;refine tk 12 ?_;refine tk 13 ?_;refine tk 14 ?_;exact B0d
     refine A1 10 rfl (fun K hK=>?_) ?_
     ·(go_simp;first|((with_reducible first|refine(CisLs.out _).mono ?_|refine(CisRd.out _).mono ?_|refine(CMR.out _).mono ?_);rintro e w' ⟨rfl,rfl⟩))
      refine hK.out _ _ kp (fun hHeld=>?_);clear hK K;try go_frame
      refine tk 11 ?_;refine tk 12 ?_;refine tk 13 ?_;refine tk 14 ?_;refine wpAnyH_ready (rs:=[5,15]) (by kernel_rfl) (by simp) ?_;refine A1 5 rfl (fun K hK=>?_) ?_
      ·go_simp;refine hK.out _ _ kp (fun hHeld=>?_);clear hK K;try go_frame
       exact B0d
      refine A1 15 rfl (fun K hK=>?_) ?_
      ·(go_simp;first|((with_reducible first|refine(CisLs.out _).mono ?_|refine(CisRd.out _).mono ?_|refine(CMR.out _).mono ?_);rintro e w' ⟨rfl,rfl⟩))
       refine hK.out _ _ kp (fun hHeld=>?_);clear hK K;try go_frame
       refine tk 16 ?_;refine tk 17 ?_;refine tk 18 ?_;refine tk 19 ?_;refine tk 20 ?_;refine tk 21 ?_;refine rd1 5 (fun K hK=>?_);go_simp;refine hK.out _ _ kp (fun hHeld=>?_);clear hK K;try go_frame
       refine tk 22 ?_;refine tk 23 ?_;refine wpAnyH_done (by kernel_rfl) ?_ _;go_wp2_with fail
       go_ret2
       exact MRet.mk HOK.out.symm (fun h=>RowI.to (RowI.lit W0 #[_,_,_] [_,_,_] .u8 5 w.heap.size 3 HB.out.size rfl rfl (by unfold maxLen;simp)) (by first|rfl|(have hb1:=B2 h;simp[D2,D9,isR,isM,isL,isC,isB,C9,inZ]at hb1;simp[A5,IntKind.wrap_u8,IntKind.wrap_i64,N7,I1]<;>omega))) (J3 HB.out)
      exact AllReadyH.nil
     exact AllReadyH.nil
set_option maxHeartbeats 4000000 in
theorem A8B(d s z i:Int)(w:World)(hi:I64 i):Calls prog 111 #[.agg #[.int .i64 34,.int .i64 d,.int .i64 s,.int .i64 z,.int .i64 i]] w (MRet ⟨34,d,s,z,i⟩ w):=by
 obtain⟨W0,hW0⟩:∃W,w.alloc (.cells #[.int .i64 34,.int .i64 d,.int .i64 s,.int .i64 z,.int .i64 i] 61)=W:=⟨_,rfl⟩
 have HB:Hid (Below w.heap.size w W0):=by rw[←hW0];exact(Below.refl _ _).alloc (Nat.le_refl _) _
 have hlt0:w.heap.size<W0.heap.size:=by rw[←hW0];simp
 obtain⟨q0,q1,q2,q3,q4⟩:=F5 34 d s z i w W0 hW0;have h00:=Since.refl W0;have q0a:=q0 _ h00;have q1a:=q1 _ h00;have q2a:=q2 _ h00;have q3a:=q3 _ h00;have q4a:=q4 _ h00;have HK:Hid (okI ⟨34,d,s,z,i⟩=(((d==0&&(s==0&&(i==0&&z==32)))))):=by show _=_;rw[Bool.eq_iff_iff];simp[okI,szI,D2,D9,isM,isR,isL,isC,isB,C9]<;>omega
 obtain⟨wd,hwd⟩:∃b,(z==32)=b:=⟨_,rfl⟩
 try rw[hwd]at HK
 obtain⟨s0,hs0⟩:∃b,(s==0)=b:=⟨_,rfl⟩
 try rw[hs0]at HK
 obtain⟨i0,hi0⟩:∃b,(i==0)=b:=⟨_,rfl⟩
 try rw[hi0]at HK
 obtain⟨d0,hd0⟩:∃b,(d==0)=b:=⟨_,rfl⟩
 try rw[hd0]at HK
 go_enter func111,ntmps111;go_upto_region 2 with fail
 go_cut[5]from 9 to 24 (fun b wx=>b= .bool (d0&&(s0&&(i0&&wd)))∧W0=wx)
 case first=>
  exact A5s
 case rest=>
  obtain⟨rfl,rfl⟩:=hcut;generalize(d0&&(s0&&(i0&&wd)))=non at*
  have HOK:Hid (okI ⟨34,d,s,z,i⟩=non):=by show _=_;have h:=HK.out;(try simp only[Bool.true_and,Bool.false_and,Bool.and_true,Bool.and_false]at h);exact h
  exact A8Q
set_option maxHeartbeats 4000000 in
theorem A8A(d s z i:Int)(w:World)(hi:I64 i):Calls prog 111 #[.agg #[.int .i64 35,.int .i64 d,.int .i64 s,.int .i64 z,.int .i64 i]] w (MRet ⟨35,d,s,z,i⟩ w):=by
 obtain⟨W0,hW0⟩:∃W,w.alloc (.cells #[.int .i64 35,.int .i64 d,.int .i64 s,.int .i64 z,.int .i64 i] 61)=W:=⟨_,rfl⟩
 have HB:Hid (Below w.heap.size w W0):=by rw[←hW0];exact(Below.refl _ _).alloc (Nat.le_refl _) _
 have hlt0:w.heap.size<W0.heap.size:=by rw[←hW0];simp
 obtain⟨q0,q1,q2,q3,q4⟩:=F5 35 d s z i w W0 hW0;have h00:=Since.refl W0;have q0a:=q0 _ h00;have q1a:=q1 _ h00;have q2a:=q2 _ h00;have q3a:=q3 _ h00;have q4a:=q4 _ h00;have HK:Hid (okI ⟨35,d,s,z,i⟩=(((d==0&&(s==0&&(i==0&&z==32)))))):=by show _=_;rw[Bool.eq_iff_iff];simp[okI,szI,D2,D9,isM,isR,isL,isC,isB,C9]<;>omega
 obtain⟨wd,hwd⟩:∃b,(z==32)=b:=⟨_,rfl⟩
 try rw[hwd]at HK
 obtain⟨s0,hs0⟩:∃b,(s==0)=b:=⟨_,rfl⟩
 try rw[hs0]at HK
 obtain⟨i0,hi0⟩:∃b,(i==0)=b:=⟨_,rfl⟩
 try rw[hi0]at HK
 obtain⟨d0,hd0⟩:∃b,(d==0)=b:=⟨_,rfl⟩
 try rw[hd0]at HK
 go_enter func111,ntmps111;go_upto_region 2 with fail
 go_cut[5]from 9 to 24 (fun b wx=>b= .bool (d0&&(s0&&(i0&&wd)))∧W0=wx)
 case first=>
  exact A5s
 case rest=>
  obtain⟨rfl,rfl⟩:=hcut;generalize(d0&&(s0&&(i0&&wd)))=non at*
  have HOK:Hid (okI ⟨35,d,s,z,i⟩=non):=by show _=_;have h:=HK.out;(try simp only[Bool.true_and,Bool.false_and,Bool.and_true,Bool.and_false]at h);exact h
  go_wp2_with fail
  all_goals go_ret2
  all_goals exact MRet.mk HOK.out.symm (fun h=>RowI.to (RowI.lit W0 #[_,_] [_,_] .u8 5 w.heap.size 2 HB.out.size rfl rfl (by unfold maxLen;simp)) (by first|rfl|(have hb1:=B2 h;simp[D2,D9,isR,isM,isL,isC,isB,C9,inZ]at hb1;simp[A5,IntKind.wrap_u8,IntKind.wrap_i64,N7,I1]<;>omega))) (O4 HB.out)
set_option maxHeartbeats 4000000 in
theorem A7z(d s z i:Int)(w:World)(hi:I64 i):Calls prog 111 #[.agg #[.int .i64 36,.int .i64 d,.int .i64 s,.int .i64 z,.int .i64 i]] w (MRet ⟨36,d,s,z,i⟩ w):=by
 obtain⟨W0,hW0⟩:∃W,w.alloc (.cells #[.int .i64 36,.int .i64 d,.int .i64 s,.int .i64 z,.int .i64 i] 61)=W:=⟨_,rfl⟩
 have HB:Hid (Below w.heap.size w W0):=by rw[←hW0];exact(Below.refl _ _).alloc (Nat.le_refl _) _
 have hlt0:w.heap.size<W0.heap.size:=by rw[←hW0];simp
 obtain⟨q0,q1,q2,q3,q4⟩:=F5 36 d s z i w W0 hW0;have h00:=Since.refl W0;have q0a:=q0 _ h00;have q1a:=q1 _ h00;have q2a:=q2 _ h00;have q3a:=q3 _ h00;have q4a:=q4 _ h00;have HK:Hid (okI ⟨36,d,s,z,i⟩=(((d==0&&(s==0&&(i==0&&z==32)))))):=by show _=_;rw[Bool.eq_iff_iff];simp[okI,szI,D2,D9,isM,isR,isL,isC,isB,C9]<;>omega
 obtain⟨wd,hwd⟩:∃b,(z==32)=b:=⟨_,rfl⟩
 try rw[hwd]at HK
 obtain⟨s0,hs0⟩:∃b,(s==0)=b:=⟨_,rfl⟩
 try rw[hs0]at HK
 obtain⟨i0,hi0⟩:∃b,(i==0)=b:=⟨_,rfl⟩
 try rw[hi0]at HK
 obtain⟨d0,hd0⟩:∃b,(d==0)=b:=⟨_,rfl⟩
 try rw[hd0]at HK
 go_enter func111,ntmps111;go_upto_region 2 with fail
 go_cut[5]from 9 to 24 (fun b wx=>b= .bool (d0&&(s0&&(i0&&wd)))∧W0=wx)
 case first=>
  exact A5s
 case rest=>
  obtain⟨rfl,rfl⟩:=hcut;generalize(d0&&(s0&&(i0&&wd)))=non at*
  have HOK:Hid (okI ⟨36,d,s,z,i⟩=non):=by show _=_;have h:=HK.out;(try simp only[Bool.true_and,Bool.false_and,Bool.and_true,Bool.and_false]at h);exact h
  exact A8Q
end Go.Proofs.YtdojafpjipcbjaaGreat
