/- -/
import Derived.Deep.CutRange
import Derived.Test.YtdojafpjipcbjaaGreatK8
open Go.Proofs.Tryz
open Go.Lib (hid)
set_option maxRecDepth 100000
namespace Go.Proofs.YtdojafpjipcbjaaGreat
open Go.RowKit
set_option linter.unusedVariables false
set_option linter.unusedSimpArgs false
theorem q8z{p:Prop}(h:p:=by
 go_wp2_with((with_reducible first|refine(CisRd.out _).mono ?_|refine(CisRs.out _).mono ?_|refine(CW4.out _).mono ?_|refine(CDI.out _).mono ?_);rintro e w' ⟨rfl,rfl⟩)
 go_meet
 case rel=>exact⟨by simp[*],rfl⟩
 ):p:=h
theorem A0p{p:Prop}(h:p:=by
 go_wp2_with((with_reducible first|refine(CisRd.out _).mono ?_|refine(CisRs.out _).mono ?_|refine(CW4.out _).mono ?_);rintro e w' ⟨rfl,rfl⟩)
 go_meet
 case rel=>exact⟨by simp[*],rfl⟩
 ):p:=h
theorem B0v{p:Prop}(h:p:=by
 go_wp2_with((with_reducible first|refine(CisRd.out _).mono ?_|refine(CisRs.out _).mono ?_|refine(CW4.out _).mono ?_);rintro e w' ⟨rfl,rfl⟩)
 go_ret2
 exact⟨rfl,HB.out⟩
 ):p:=h
theorem A3m(o:Int)(w:World)(ho:o<0∨36<o):Calls prog 155 #[.int .i64 o] w fun e w'=>e= .returned (.int .i64 (M7 o))∧w=w':=by
 have z14:(o==14)=false:=by simp;omega
 have z15:(o==15)=false:=by simp;omega
 have z16:(o==16)=false:=by simp;omega
 have z21:(o==21)=false:=by simp;omega
 have z17:(o==17)=false:=by simp;omega
 have z22:(o==22)=false:=by simp;omega
 have z18:(o==18)=false:=by simp;omega
 have z26:(o==26)=false:=by simp;omega
 have z19:(o==19)=false:=by simp;omega
 have z23:(o==23)=false:=by simp;omega
 have z27:(o==27)=false:=by simp;omega
 have z24:(o==24)=false:=by simp;omega
 have z25:(o==25)=false:=by simp;omega
 have e:M7 o= -1:=by unfold M7;repeat(first|rw[if_neg (by omega)])
 rw[e];clear ho e;go_enter func155,ntmps155
 go_wp2
 go_ret;exact⟨rfl,rfl⟩
theorem A3n(o:Int)(w:World):Calls prog 155 #[.int .i64 o] w fun e w'=>e= .returned (.int .i64 (M7 o))∧w=w':=by
 by_cases h:0≤o∧o≤36
 ·exact M6 o w h
 ·exact A3m o w (by omega)
set_option maxHeartbeats 4000000 in
theorem I7(o d s z i:Int)(w:World)(ho:o<0∨6<o):Calls prog 109 #[.agg #[.int .i64 o,.int .i64 d,.int .i64 s,.int .i64 z,.int .i64 i]] w fun e w'=>e= .returned (.tuple #[.slice none 0 0,.bool false])∧Below w.heap.size w w':=by
 obtain⟨W0,hW0⟩:∃W,w.alloc (.cells #[.int .i64 o,.int .i64 d,.int .i64 s,.int .i64 z,.int .i64 i] 61)=W:=⟨_,rfl⟩
 have HB:Hid (Below w.heap.size w W0):=by rw[←hW0];exact(Below.refl _ _).alloc (Nat.le_refl _) _
 obtain⟨q0,q1,q2,q3,q4⟩:=F5 o d s z i w W0 hW0;have h00:=Since.refl W0;have q0a:=q0 _ h00;have q1a:=q1 _ h00;have q2a:=q2 _ h00;have q3a:=q3 _ h00;have q4a:=q4 _ h00;have CisRd:=hid (fun w=>B9 d w);have CisRs:=hid (fun w=>B9 s w);have CW4:=hid (fun w=>F7 i w);obtain⟨wd,hwd⟩:∃b,(z==32)=b:=⟨_,rfl⟩
 obtain⟨wh,hwh⟩:∃b,(z==16)=b:=⟨_,rfl⟩
 obtain⟨rd,hrd⟩:∃b,isR d=b:=⟨_,rfl⟩
 rw[hrd]at CisRd;obtain⟨rs,hrs⟩:∃b,isR s=b:=⟨_,rfl⟩
 rw[hrs]at CisRs;clear hrd hrs;obtain⟨d0,hd0⟩:∃b,(d==0)=b:=⟨_,rfl⟩
 obtain⟨s0,hs0⟩:∃b,(s==0)=b:=⟨_,rfl⟩
 obtain⟨e0,he0⟩:∃b,(i==0)=b:=⟨_,rfl⟩
 have z0:(o==0)=false:=by simp;omega
 have z1:(o==1)=false:=by simp;omega
 have z2:(o==2)=false:=by simp;omega
 have z3:(o==3)=false:=by simp;omega
 have z4:(o==4)=false:=by simp;omega
 have z5:(o==5)=false:=by simp;omega
 have z6:(o==6)=false:=by simp;omega
 clear ho;go_enter func109,ntmps109;go_upto_region 2 with((with_reducible first|refine(CisRd.out _).mono ?_|refine(CisRs.out _).mono ?_|refine(CW4.out _).mono ?_);rintro e w' ⟨rfl,rfl⟩)
 go_cut[5]from 11 to 16 (fun b wx=>b= .bool (wd||wh)∧W0=wx)
 case first=>
  cases wd
  ·exact A0p
  ·exact A0p
 case rest=>
  obtain⟨rfl,rfl⟩:=hcut;go_upto_region 3 with((with_reducible first|refine(CisRd.out _).mono ?_|refine(CisRs.out _).mono ?_|refine(CW4.out _).mono ?_);rintro e w' ⟨rfl,rfl⟩)
  go_cut[6]from 17 to 24 (fun b wx=>b= .bool (rd&&rs)∧W0=wx)
  case first=>
   cases rd
   ·exact A0p
   ·exact A0p
  case rest=>
   obtain⟨rfl,rfl⟩:=hcut;exact B0v
set_option maxHeartbeats 4000000 in
theorem I6(o d s z i:Int)(w:World)(ho:o<7∨27<o):Calls prog 110 #[.agg #[.int .i64 o,.int .i64 d,.int .i64 s,.int .i64 z,.int .i64 i]] w fun e w'=>e= .returned (.tuple #[.slice none 0 0,.bool false])∧Below w.heap.size w w':=by
 obtain⟨W0,hW0⟩:∃W,w.alloc (.cells #[.int .i64 o,.int .i64 d,.int .i64 s,.int .i64 z,.int .i64 i] 61)=W:=⟨_,rfl⟩
 have HB:Hid (Below w.heap.size w W0):=by rw[←hW0];exact(Below.refl _ _).alloc (Nat.le_refl _) _
 obtain⟨q0,q1,q2,q3,q4⟩:=F5 o d s z i w W0 hW0;have h00:=Since.refl W0;have q0a:=q0 _ h00;have q1a:=q1 _ h00;have q2a:=q2 _ h00;have q3a:=q3 _ h00;have q4a:=q4 _ h00;have CisRd:=hid (fun w=>B9 d w);have CisRs:=hid (fun w=>B9 s w);have CW4:=hid (fun w=>F7 i w);obtain⟨wd,hwd⟩:∃b,(z==32)=b:=⟨_,rfl⟩
 obtain⟨wh,hwh⟩:∃b,(z==16)=b:=⟨_,rfl⟩
 obtain⟨rd,hrd⟩:∃b,isR d=b:=⟨_,rfl⟩
 rw[hrd]at CisRd;obtain⟨rs,hrs⟩:∃b,isR s=b:=⟨_,rfl⟩
 rw[hrs]at CisRs;clear hrd hrs;obtain⟨d0,hd0⟩:∃b,(d==0)=b:=⟨_,rfl⟩
 obtain⟨s0,hs0⟩:∃b,(s==0)=b:=⟨_,rfl⟩
 obtain⟨e0,he0⟩:∃b,(i==0)=b:=⟨_,rfl⟩
 have z7:(o==7)=false:=by simp;omega
 have z8:(o==8)=false:=by simp;omega
 have z9:(o==9)=false:=by simp;omega
 have z10:(o==10)=false:=by simp;omega
 have z11:(o==11)=false:=by simp;omega
 have z12:(o==12)=false:=by simp;omega
 have z13:(o==13)=false:=by simp;omega
 have z14:(o==14)=false:=by simp;omega
 have z15:(o==15)=false:=by simp;omega
 have z16:(o==16)=false:=by simp;omega
 have z17:(o==17)=false:=by simp;omega
 have z18:(o==18)=false:=by simp;omega
 have z19:(o==19)=false:=by simp;omega
 have z20:(o==20)=false:=by simp;omega
 have z21:(o==21)=false:=by simp;omega
 have z22:(o==22)=false:=by simp;omega
 have z23:(o==23)=false:=by simp;omega
 have z24:(o==24)=false:=by simp;omega
 have z25:(o==25)=false:=by simp;omega
 have z26:(o==26)=false:=by simp;omega
 have z27:(o==27)=false:=by simp;omega
 have CDI:=hid (fun w=>A3n o w);clear ho;go_enter func110,ntmps110;go_upto_region 2 with((with_reducible first|refine(CisRd.out _).mono ?_|refine(CisRs.out _).mono ?_|refine(CW4.out _).mono ?_|refine(CDI.out _).mono ?_);rintro e w' ⟨rfl,rfl⟩)
 go_cut[5]from 13 to 18 (fun b wx=>b= .bool (wd||wh)∧W0=wx)
 case first=>
  cases wd
  ·exact q8z
  ·exact q8z
 case rest=>
  obtain⟨rfl,rfl⟩:=hcut;go_upto_region 3 with((with_reducible first|refine(CisRd.out _).mono ?_|refine(CisRs.out _).mono ?_|refine(CW4.out _).mono ?_|refine(CDI.out _).mono ?_);rintro e w' ⟨rfl,rfl⟩)
  go_cut[6]from 19 to 31 (fun b wx=>b= .bool (rd&&(rs&&e0))∧W0=wx)
  case first=>
   cases rd
   ·exact q8z
   ·cases rs
    ·exact q8z
    ·exact q8z
  case rest=>
   obtain⟨rfl,rfl⟩:=hcut;go_upto_region 4 with((with_reducible first|refine(CisRd.out _).mono ?_|refine(CisRs.out _).mono ?_|refine(CW4.out _).mono ?_|refine(CDI.out _).mono ?_);rintro e w' ⟨rfl,rfl⟩)
   go_cut[7]from 32 to 44 (fun b wx=>b= .bool (rd&&(s0&&e0))∧W0=wx)
   case first=>
    cases rd
    ·exact q8z
    ·cases s0
     ·exact q8z
     ·exact q8z
   case rest=>
    obtain⟨rfl,rfl⟩:=hcut;go_wp2_with((with_reducible first|refine(CisRd.out _).mono ?_|refine(CisRs.out _).mono ?_|refine(CW4.out _).mono ?_|refine(CDI.out _).mono ?_);rintro e w' ⟨rfl,rfl⟩)
    go_ret2
    exact⟨rfl,HB.out⟩
set_option maxHeartbeats 4000000 in
theorem J8(o d s z i:Int)(w:World)(ho:o<28∨36<o):Calls prog 111 #[.agg #[.int .i64 o,.int .i64 d,.int .i64 s,.int .i64 z,.int .i64 i]] w fun e w'=>e= .returned (.tuple #[.slice none 0 0,.bool false])∧Below w.heap.size w w':=by
 obtain⟨W0,hW0⟩:∃W,w.alloc (.cells #[.int .i64 o,.int .i64 d,.int .i64 s,.int .i64 z,.int .i64 i] 61)=W:=⟨_,rfl⟩
 have HB:Hid (Below w.heap.size w W0):=by rw[←hW0];exact(Below.refl _ _).alloc (Nat.le_refl _) _
 obtain⟨q0,q1,q2,q3,q4⟩:=F5 o d s z i w W0 hW0;have h00:=Since.refl W0;have q0a:=q0 _ h00;have q1a:=q1 _ h00;have q2a:=q2 _ h00;have q3a:=q3 _ h00;have q4a:=q4 _ h00;have CisRd:=hid (fun w=>B9 d w);have CisRs:=hid (fun w=>B9 s w);have CW4:=hid (fun w=>F7 i w);obtain⟨wd,hwd⟩:∃b,(z==32)=b:=⟨_,rfl⟩
 obtain⟨wh,hwh⟩:∃b,(z==16)=b:=⟨_,rfl⟩
 obtain⟨rd,hrd⟩:∃b,isR d=b:=⟨_,rfl⟩
 rw[hrd]at CisRd;obtain⟨rs,hrs⟩:∃b,isR s=b:=⟨_,rfl⟩
 rw[hrs]at CisRs;clear hrd hrs;obtain⟨d0,hd0⟩:∃b,(d==0)=b:=⟨_,rfl⟩
 obtain⟨s0,hs0⟩:∃b,(s==0)=b:=⟨_,rfl⟩
 obtain⟨e0,he0⟩:∃b,(i==0)=b:=⟨_,rfl⟩
 have z28:(o==28)=false:=by simp;omega
 have z29:(o==29)=false:=by simp;omega
 have z30:(o==30)=false:=by simp;omega
 have z31:(o==31)=false:=by simp;omega
 have z32:(o==32)=false:=by simp;omega
 have z33:(o==33)=false:=by simp;omega
 have z34:(o==34)=false:=by simp;omega
 have z35:(o==35)=false:=by simp;omega
 have z36:(o==36)=false:=by simp;omega
 clear ho;go_enter func111,ntmps111;go_upto_region 2 with((with_reducible first|refine(CisRd.out _).mono ?_|refine(CisRs.out _).mono ?_|refine(CW4.out _).mono ?_);rintro e w' ⟨rfl,rfl⟩)
 go_cut[5]from 9 to 24 (fun b wx=>b= .bool (d0&&(s0&&(e0&&wd)))∧W0=wx)
 case first=>
  cases d0
  ·exact A0p
  ·cases s0
   ·exact A0p
   ·cases e0
    ·exact A0p
    ·exact A0p
 case rest=>
  obtain⟨rfl,rfl⟩:=hcut;exact B0v
end Go.Proofs.YtdojafpjipcbjaaGreat
