/- -/
import Derived.Test.YtajljbmeaeeknaaGreatA8
open Go.Proofs.Tryz
open Go.Lib (hid)
set_option maxRecDepth 100000
namespace Go.Proofs.YtajljbmeaeeknaaGreat
open Go.RowKit Go.Maps
set_option linter.unusedVariables false
set_option linter.unusedSimpArgs false
theorem q3z{p:Prop}(h:p:=by
 go_enter func81,ntmps81;go_upto_region 7 with(first|(go_at_call 110;(with_reducible refine CL.out.mono ?_);rintro e wa ⟨rfl,hdr⟩;have c33':=A0 (hdr.below w.heap.size) hM c33;have c36':=A0 (hdr.below w.heap.size) hM c36;have HA:=hid (H.out.below (hdr.below _));have HB:=hid (hdr.below (w:=w) B);have hsa:=(hdr.below (w:=w) B).size;clear hdr c33 f33 c36)|(go_at_call 57;(with_reducible refine(CD.out _ HA.out.d).mono ?_);rintro e wb ⟨rfl,hbb⟩;have HV:=hid (HA.out.below hbb);have HBB:=hid (HB.out.trans (hbb.mono (by omega)));have hsb:=hbb.size;clear hbb c33' c36'))
 have hC:Cls (wb.alloc (.cells #[.int .i64 o,.int .i64 (dn:Int),.int .i64 (an:Int),.int .i64 (bn:Int),.int .i64 i] 75)) wb.heap.size [.int .i64 o,.int .i64 (dn:Int),.int .i64 (an:Int),.int .i64 (bn:Int),.int .i64 i]:=Cls.made;have hVM:=HV.out.below ((Below.refl _ _).alloc (Nat.le_refl _) (.cells #[.int .i64 o,.int .i64 (dn:Int),.int .i64 (an:Int),.int .i64 (bn:Int),.int .i64 i] 75));have hBW:=HBB.out.trans ((Below.refl B wb).alloc (by omega) (.cells #[.int .i64 o,.int .i64 (dn:Int),.int .i64 (an:Int),.int .i64 (bn:Int),.int .i64 i] 75));have hXl:wb.heap.size<(wb.alloc (.cells #[.int .i64 o,.int .i64 (dn:Int),.int .i64 (an:Int),.int .i64 (bn:Int),.int .i64 i] 75)).heap.size:=by simp
 have hMX:M<wb.heap.size:=HV.out.ltM;clear HV HBB HA HB CL CD;generalize wb.alloc (.cells #[.int .i64 o,.int .i64 (dn:Int),.int .i64 (an:Int),.int .i64 (bn:Int),.int .i64 i] 75)=W7 at*
 generalize wb.heap.size=X at*
 have HC:=hid hC;have HVM:=hid hVM;have HBW:=hid hBW;obtain⟨⟨z0,z1,z2,z3,z4⟩,-⟩:=hC.five;have q1:=(hVM.reg han).1;have q2:=(hVM.reg hbn).1;rw[HRA.out]at q1;rw[HRB.out]at q2;clear hC hVM hBW;go_quiet(fail)
 have HC2:=hid (HC.out.below hXl (Dr.below (w:=W7) ⟨nq,rfl⟩ W7.heap.size));have HV2:=hid (HVM.out.below (Dr.below (w:=W7) ⟨nq,rfl⟩ W7.heap.size));have HB2:=hid (HBW.out.trans (Dr.below (w:=W7) ⟨nq,rfl⟩ B));clear z0 z1 z2 z3 z4 q1 q2 HC HVM HBW;generalize W7.drewN nq=wq at*
 obtain⟨⟨z0,z1,z2,z3,z4⟩,-⟩:=HC2.out.five;obtain⟨⟨c33,f33⟩,-,⟨c35,f35⟩,-⟩:=HV2.out.cells;have hMq:=HV2.out.ltM;have hmx:¬M=X:=by omega
 have hxm:¬X=M:=by omega
 have CS:=hid (fun wk (hk:VM B M r mv c wk)=>S9 dn (M9 o ra n) wk hk hdn (A4E ra0 ra1));have CC:=hid (fun wk=>A2g o (by have:=HOO.out;omega) (by have:=HOO.out;omega) ra n ra0 ra1 hnb.1 hnb.2 wk);go_upto_region 16 with(go_at_call 84;(with_reducible refine(C1.out _).mono ?_);rintro e w1 ⟨rfl,rfl⟩)
 go_region_with (first|(go_at_call 112;(with_reducible refine(CC.out _).mono ?_);rintro e w1 ⟨rfl,rfl⟩)|(go_at_call 111;(with_reducible refine(CS.out _ (by first|exact HV2.out|exact HV2.out.below (Below.refl _ _).drew)).mono ?_);rintro e ws ⟨rfl,hvs,hbs⟩;have HVS:=hid hvs;have HBS:=hid hbs;clear hvs hbs))
 all_goals
  go_wp2_with fail
  go_ret;exact SvP.yes (by rw[←HOX.out];unfold exV;simp only[HEF.out,Int.reduceEq,or_self,or_false,false_or,true_or,or_true,if_true,if_false,HN.out,RA.out,RB.out,Int.toNat_natCast]) HVS.out (by first|exact HB2.out.trans HBS.out|exact HB2.out.drew.trans HBS.out)
 ):p:=h
theorem B3T{p:Prop}(h:p:=by
 go_ret;exact SvP.yes (by rw[←HOX.out];unfold exV;simp only[HEF.out,Int.reduceEq,or_self,or_false,false_or,true_or,or_true,if_true,if_false,HN.out,RA.out,RB.out,Int.toNat_natCast]) HVS.out (by first|exact HB2.out.trans HBS.out|exact HB2.out.drew.trans HBS.out)
 ):p:=h
theorem A5b(a b:Int):0≤bits .andNot .u32 a b∧bits .andNot .u32 a b<4294967296:=by
 have key:∀n:Int,0≤IntKind.u32.wrap n∧IntKind.u32.wrap n<4294967296:=fun n=>by
  simp only[IntKind.wrap,IntKind.bits,IntKind.signed];simp;omega
 exact key _
set_option maxHeartbeats 4000000 in
theorem A8M{B M r:Nat}{mv:Value}{c:Mac}(w:World)(h:VM B M r mv c w)(hB:B≤w.heap.size)(hl:c.a.toNat+4≤c.m.length)(h4:c.a%4=0)(o i:Int)(dn an bn:Nat)(hd:P8 (w4 c.m c.a.toNat)=some ⟨o,dn,an,bn,i⟩)(o0:0≤o)(o1:o≤14)(hdn:dn<32)(han:an<32)(hbn:bn<32):
  Calls prog 81 #[.pointer (some ⟨M,0,none⟩)] w (SvP B M r mv c (G4 c) w):=by
 have e:G4 c=exV ⟨o,dn,an,bn,i⟩ c:=by unfold G4;rw[if_pos hl,if_pos h4,hd]
 rw[e];have ef:fmR o=0:=A7A (by omega) (by omega);have HX:Hid (exV ⟨o,dn,an,bn,i⟩ c=exV ⟨o,dn,an,bn,i⟩ c):=hid rfl;obtain⟨OX,hOX⟩:∃OX,exV ⟨o,dn,an,bn,i⟩ c=OX:=⟨_,rfl⟩
 rw[hOX];have H:=hid h;obtain⟨⟨c33,f33⟩,-,-,c36⟩:=h.cells;have hab:=h.ab;have hM:=h.ltM;have hBM:=h.n4;have ek:((c.a.toNat:Nat):Int)=c.a:=by omega
 have CL0:=J8 c.a.toNat w h (by omega) 4 (by simp);rw[ek]at CL0;have hvb:=Q9 h.mb c.a.toNat;have CD:Hid (∀wk,DecIs wk r 39→Calls prog 57 #[.map (some r),.int .u32 (w4 c.m c.a.toNat)] wk fun e w'=>e= .returned (.tuple #[.agg #[.int .i64 o,.int .i64 (dn:Int),.int .i64 (an:Int),.int .i64 (bn:Int),.int .i64 i],.bool true])∧Below wk.heap.size wk w'):=hid (fun wk hk=>by
  have:=I4 (w4 c.m c.a.toNat) hvb.1 hvb.2 r wk hk;unfold dcV at this;rw[hd]at this;exact this)
 obtain⟨V,hV⟩:∃V,w4 c.m c.a.toNat=V:=⟨_,rfl⟩
 rw[hV]at CD;have CL:Hid (Calls prog 110 #[.pointer (some ⟨M,0,none⟩),.int .u32 c.a,.int .i64 4] w fun e w'=>e= .returned (.tuple #[.int .u32 V,.bool true])∧Dr w w'):=hid (by
  have:=CL0;unfold ldP at this;rw[if_pos hl]at this;rw[←hV];exact this)
 have gt:c.a.tmod 4=c.a%4:=Int.tmod_eq_emod_of_nonneg hab.1;have g2:(c.a.tmod 4 !=0)=false:=by rw[gt,h4];rfl
 have g3:(c.a%4 !=0)=false:=by rw[h4];rfl
 have C1:Hid (∀w,Calls prog 84 #[.int .i64 o] w fun e w'=>e= .returned (.int .i64 0)∧w=w'):=hid (fun w=>by rw[←ef];exact D9 o w);have HEF:=hid ef;have HOX:=hid hOX;have HOO:=hid (And.intro o0 o1);obtain⟨ra0,ra1⟩:=h.rb an;obtain⟨rb0,rb1⟩:=h.rb bn;obtain⟨ra,hra⟩:∃x,c.r.getD an 0=x:=⟨_,rfl⟩
 obtain⟨rb,hrb⟩:∃x,c.r.getD bn 0=x:=⟨_,rfl⟩
 obtain⟨n,hn⟩:∃x,i%4294967296=x:=⟨_,rfl⟩
 have hnb:0≤n∧n<4294967296:=by omega
 have HRA:=hid hra;have HRB:=hid hrb;have HN:=hid hn;rw[hra]at ra0 ra1;rw[hrb]at rb0 rb1;have RA:Hid (N0 c (an:Int)=ra):=hid hra;have RB:Hid (N0 c (bn:Int)=rb):=hid hrb;have a0:(0:Int)≤(an:Int):=by omega
 have a1:(an:Int)<32:=by omega
 have b0:(0:Int)≤(bn:Int):=by omega
 have b1:(bn:Int)<32:=by omega
 clear CL0 hl e h ek hV hd hvb gt h4 HX ef hOX o0 o1 hra hrb;go_enter func81,ntmps81;go_upto_region 7 with(first|(go_at_call 110;(with_reducible refine CL.out.mono ?_);rintro e wa ⟨rfl,hdr⟩;have c33':=A0 (hdr.below w.heap.size) hM c33;have c36':=A0 (hdr.below w.heap.size) hM c36;have HA:=hid (H.out.below (hdr.below _));have HB:=hid (hdr.below (w:=w) B);have hsa:=(hdr.below (w:=w) B).size;clear hdr c33 f33 c36)|(go_at_call 57;(with_reducible refine(CD.out _ HA.out.d).mono ?_);rintro e wb ⟨rfl,hbb⟩;have HV:=hid (HA.out.below hbb);have HBB:=hid (HB.out.trans (hbb.mono (by omega)));have hsb:=hbb.size;clear hbb c33' c36'))
 have hC:Cls (wb.alloc (.cells #[.int .i64 o,.int .i64 (dn:Int),.int .i64 (an:Int),.int .i64 (bn:Int),.int .i64 i] 75)) wb.heap.size [.int .i64 o,.int .i64 (dn:Int),.int .i64 (an:Int),.int .i64 (bn:Int),.int .i64 i]:=Cls.made;have hVM:=HV.out.below ((Below.refl _ _).alloc (Nat.le_refl _) (.cells #[.int .i64 o,.int .i64 (dn:Int),.int .i64 (an:Int),.int .i64 (bn:Int),.int .i64 i] 75));have hBW:=HBB.out.trans ((Below.refl B wb).alloc (by omega) (.cells #[.int .i64 o,.int .i64 (dn:Int),.int .i64 (an:Int),.int .i64 (bn:Int),.int .i64 i] 75));have hXl:wb.heap.size<(wb.alloc (.cells #[.int .i64 o,.int .i64 (dn:Int),.int .i64 (an:Int),.int .i64 (bn:Int),.int .i64 i] 75)).heap.size:=by simp
 have hMX:M<wb.heap.size:=HV.out.ltM;clear HV HBB HA HB CL CD;generalize wb.alloc (.cells #[.int .i64 o,.int .i64 (dn:Int),.int .i64 (an:Int),.int .i64 (bn:Int),.int .i64 i] 75)=W7 at*
 generalize wb.heap.size=X at*
 have HC:=hid hC;have HVM:=hid hVM;have HBW:=hid hBW;obtain⟨⟨z0,z1,z2,z3,z4⟩,-⟩:=hC.five;have q1:=(hVM.reg han).1;have q2:=(hVM.reg hbn).1;rw[HRA.out]at q1;rw[HRB.out]at q2;clear hC hVM hBW;go_quiet(fail)
 have HC2:=hid (HC.out.below hXl (Dr.below (w:=W7) ⟨nq,rfl⟩ W7.heap.size));have HV2:=hid (HVM.out.below (Dr.below (w:=W7) ⟨nq,rfl⟩ W7.heap.size));have HB2:=hid (HBW.out.trans (Dr.below (w:=W7) ⟨nq,rfl⟩ B));clear z0 z1 z2 z3 z4 q1 q2 HC HVM HBW;generalize W7.drewN nq=wq at*
 obtain⟨⟨z0,z1,z2,z3,z4⟩,-⟩:=HC2.out.five;obtain⟨⟨c33,f33⟩,-,⟨c35,f35⟩,-⟩:=HV2.out.cells;have hMq:=HV2.out.ltM;have hmx:¬M=X:=by omega
 have hxm:¬X=M:=by omega
 have CS:=hid (fun wk (hk:VM B M r mv c wk)=>S9 dn (M9 o ra rb) wk hk hdn (A4E ra0 ra1));have CC:=hid (fun wk=>A2g o (by have:=HOO.out;omega) (by have:=HOO.out;omega) ra rb ra0 ra1 rb0 rb1 wk);go_upto_region 13 with(go_at_call 84;(with_reducible refine(C1.out _).mono ?_);rintro e w1 ⟨rfl,rfl⟩)
 go_region_with (first|(go_at_call 112;(with_reducible refine(CC.out _).mono ?_);rintro e w1 ⟨rfl,rfl⟩)|(go_at_call 111;(with_reducible refine(CS.out _ (by first|exact HV2.out|exact HV2.out.below (Below.refl _ _).drew)).mono ?_);rintro e ws ⟨rfl,hvs,hbs⟩;have HVS:=hid hvs;have HBS:=hid hbs;clear hvs hbs))
 all_goals
  go_wp2_with fail
  exact B3T
set_option maxHeartbeats 4000000 in
theorem A8L{B M r:Nat}{mv:Value}{c:Mac}(w:World)(h:VM B M r mv c w)(hB:B≤w.heap.size)(hl:c.a.toNat+4≤c.m.length)(h4:c.a%4=0)(o i:Int)(dn an bn:Nat)(hd:P8 (w4 c.m c.a.toNat)=some ⟨o,dn,an,bn,i⟩)(o0:15≤o)(o1:o≤20)(hdn:dn<32)(han:an<32)(hbn:bn<32):
  Calls prog 81 #[.pointer (some ⟨M,0,none⟩)] w (SvP B M r mv c (G4 c) w):=by
 have e:G4 c=exV ⟨o,dn,an,bn,i⟩ c:=by unfold G4;rw[if_pos hl,if_pos h4,hd]
 rw[e];have ef:fmR o=1:=A6z (by omega) (by omega);have HX:Hid (exV ⟨o,dn,an,bn,i⟩ c=exV ⟨o,dn,an,bn,i⟩ c):=hid rfl;obtain⟨OX,hOX⟩:∃OX,exV ⟨o,dn,an,bn,i⟩ c=OX:=⟨_,rfl⟩
 rw[hOX];have H:=hid h;obtain⟨⟨c33,f33⟩,-,-,c36⟩:=h.cells;have hab:=h.ab;have hM:=h.ltM;have hBM:=h.n4;have ek:((c.a.toNat:Nat):Int)=c.a:=by omega
 have CL0:=J8 c.a.toNat w h (by omega) 4 (by simp);rw[ek]at CL0;have hvb:=Q9 h.mb c.a.toNat;have CD:Hid (∀wk,DecIs wk r 39→Calls prog 57 #[.map (some r),.int .u32 (w4 c.m c.a.toNat)] wk fun e w'=>e= .returned (.tuple #[.agg #[.int .i64 o,.int .i64 (dn:Int),.int .i64 (an:Int),.int .i64 (bn:Int),.int .i64 i],.bool true])∧Below wk.heap.size wk w'):=hid (fun wk hk=>by
  have:=I4 (w4 c.m c.a.toNat) hvb.1 hvb.2 r wk hk;unfold dcV at this;rw[hd]at this;exact this)
 obtain⟨V,hV⟩:∃V,w4 c.m c.a.toNat=V:=⟨_,rfl⟩
 rw[hV]at CD;have CL:Hid (Calls prog 110 #[.pointer (some ⟨M,0,none⟩),.int .u32 c.a,.int .i64 4] w fun e w'=>e= .returned (.tuple #[.int .u32 V,.bool true])∧Dr w w'):=hid (by
  have:=CL0;unfold ldP at this;rw[if_pos hl]at this;rw[←hV];exact this)
 have gt:c.a.tmod 4=c.a%4:=Int.tmod_eq_emod_of_nonneg hab.1;have g2:(c.a.tmod 4 !=0)=false:=by rw[gt,h4];rfl
 have g3:(c.a%4 !=0)=false:=by rw[h4];rfl
 have C1:Hid (∀w,Calls prog 84 #[.int .i64 o] w fun e w'=>e= .returned (.int .i64 1)∧w=w'):=hid (fun w=>by rw[←ef];exact D9 o w);have HEF:=hid ef;have HOX:=hid hOX;have HOO:=hid (And.intro o0 o1);obtain⟨ra0,ra1⟩:=h.rb an;obtain⟨rb0,rb1⟩:=h.rb bn;obtain⟨ra,hra⟩:∃x,c.r.getD an 0=x:=⟨_,rfl⟩
 obtain⟨rb,hrb⟩:∃x,c.r.getD bn 0=x:=⟨_,rfl⟩
 obtain⟨n,hn⟩:∃x,i%4294967296=x:=⟨_,rfl⟩
 have hnb:0≤n∧n<4294967296:=by omega
 have HRA:=hid hra;have HRB:=hid hrb;have HN:=hid hn;rw[hra]at ra0 ra1;rw[hrb]at rb0 rb1;have RA:Hid (N0 c (an:Int)=ra):=hid hra;have RB:Hid (N0 c (bn:Int)=rb):=hid hrb;have a0:(0:Int)≤(an:Int):=by omega
 have a1:(an:Int)<32:=by omega
 have b0:(0:Int)≤(bn:Int):=by omega
 have b1:(bn:Int)<32:=by omega
 clear CL0 hl e h ek hV hd hvb gt h4 HX ef hOX o0 o1 hra hrb;exact q3z
set_option maxHeartbeats 4000000 in
theorem A8K{B M r:Nat}{mv:Value}{c:Mac}(w:World)(h:VM B M r mv c w)(hB:B≤w.heap.size)(hl:c.a.toNat+4≤c.m.length)(h4:c.a%4=0)(o i:Int)(dn an bn:Nat)(hd:P8 (w4 c.m c.a.toNat)=some ⟨o,dn,an,bn,i⟩)(o0:21≤o)(o1:o≤23)(hdn:dn<32)(han:an<32)(hbn:bn<32):
  Calls prog 81 #[.pointer (some ⟨M,0,none⟩)] w (SvP B M r mv c (G4 c) w):=by
 have e:G4 c=exV ⟨o,dn,an,bn,i⟩ c:=by unfold G4;rw[if_pos hl,if_pos h4,hd]
 rw[e];have ef:fmR o=2:=A6y (by omega) (by omega);have HX:Hid (exV ⟨o,dn,an,bn,i⟩ c=exV ⟨o,dn,an,bn,i⟩ c):=hid rfl;obtain⟨OX,hOX⟩:∃OX,exV ⟨o,dn,an,bn,i⟩ c=OX:=⟨_,rfl⟩
 rw[hOX];have H:=hid h;obtain⟨⟨c33,f33⟩,-,-,c36⟩:=h.cells;have hab:=h.ab;have hM:=h.ltM;have hBM:=h.n4;have ek:((c.a.toNat:Nat):Int)=c.a:=by omega
 have CL0:=J8 c.a.toNat w h (by omega) 4 (by simp);rw[ek]at CL0;have hvb:=Q9 h.mb c.a.toNat;have CD:Hid (∀wk,DecIs wk r 39→Calls prog 57 #[.map (some r),.int .u32 (w4 c.m c.a.toNat)] wk fun e w'=>e= .returned (.tuple #[.agg #[.int .i64 o,.int .i64 (dn:Int),.int .i64 (an:Int),.int .i64 (bn:Int),.int .i64 i],.bool true])∧Below wk.heap.size wk w'):=hid (fun wk hk=>by
  have:=I4 (w4 c.m c.a.toNat) hvb.1 hvb.2 r wk hk;unfold dcV at this;rw[hd]at this;exact this)
 obtain⟨V,hV⟩:∃V,w4 c.m c.a.toNat=V:=⟨_,rfl⟩
 rw[hV]at CD;have CL:Hid (Calls prog 110 #[.pointer (some ⟨M,0,none⟩),.int .u32 c.a,.int .i64 4] w fun e w'=>e= .returned (.tuple #[.int .u32 V,.bool true])∧Dr w w'):=hid (by
  have:=CL0;unfold ldP at this;rw[if_pos hl]at this;rw[←hV];exact this)
 have gt:c.a.tmod 4=c.a%4:=Int.tmod_eq_emod_of_nonneg hab.1;have g2:(c.a.tmod 4 !=0)=false:=by rw[gt,h4];rfl
 have g3:(c.a%4 !=0)=false:=by rw[h4];rfl
 have C1:Hid (∀w,Calls prog 84 #[.int .i64 o] w fun e w'=>e= .returned (.int .i64 2)∧w=w'):=hid (fun w=>by rw[←ef];exact D9 o w);have HEF:=hid ef;have HOX:=hid hOX;have HOO:=hid (And.intro o0 o1);obtain⟨ra0,ra1⟩:=h.rb an;obtain⟨rb0,rb1⟩:=h.rb bn;obtain⟨ra,hra⟩:∃x,c.r.getD an 0=x:=⟨_,rfl⟩
 obtain⟨rb,hrb⟩:∃x,c.r.getD bn 0=x:=⟨_,rfl⟩
 obtain⟨n,hn⟩:∃x,i%4294967296=x:=⟨_,rfl⟩
 have hnb:0≤n∧n<4294967296:=by omega
 have HRA:=hid hra;have HRB:=hid hrb;have HN:=hid hn;rw[hra]at ra0 ra1;rw[hrb]at rb0 rb1;have RA:Hid (N0 c (an:Int)=ra):=hid hra;have RB:Hid (N0 c (bn:Int)=rb):=hid hrb;have a0:(0:Int)≤(an:Int):=by omega
 have a1:(an:Int)<32:=by omega
 have b0:(0:Int)≤(bn:Int):=by omega
 have b1:(bn:Int)<32:=by omega
 clear CL0 hl e h ek hV hd hvb gt h4 HX ef hOX o0 o1 hra hrb;exact q3z
set_option maxHeartbeats 4000000 in
theorem A8J{B M r:Nat}{mv:Value}{c:Mac}(w:World)(h:VM B M r mv c w)(hB:B≤w.heap.size)(hl:c.a.toNat+4≤c.m.length)(h4:c.a%4=0)(o i:Int)(dn an bn:Nat)(hd:P8 (w4 c.m c.a.toNat)=some ⟨o,dn,an,bn,i⟩)(o0:24≤o)(o1:o≤24)(hdn:dn<32)(han:an<32)(hbn:bn<32):
  Calls prog 81 #[.pointer (some ⟨M,0,none⟩)] w (SvP B M r mv c (G4 c) w):=by
 have e:G4 c=exV ⟨o,dn,an,bn,i⟩ c:=by unfold G4;rw[if_pos hl,if_pos h4,hd]
 rw[e];have ef:fmR o=3:=A6x (by omega) (by omega);have HX:Hid (exV ⟨o,dn,an,bn,i⟩ c=exV ⟨o,dn,an,bn,i⟩ c):=hid rfl;obtain⟨OX,hOX⟩:∃OX,exV ⟨o,dn,an,bn,i⟩ c=OX:=⟨_,rfl⟩
 rw[hOX];have H:=hid h;obtain⟨⟨c33,f33⟩,-,-,c36⟩:=h.cells;have hab:=h.ab;have hM:=h.ltM;have hBM:=h.n4;have ek:((c.a.toNat:Nat):Int)=c.a:=by omega
 have CL0:=J8 c.a.toNat w h (by omega) 4 (by simp);rw[ek]at CL0;have hvb:=Q9 h.mb c.a.toNat;have CD:Hid (∀wk,DecIs wk r 39→Calls prog 57 #[.map (some r),.int .u32 (w4 c.m c.a.toNat)] wk fun e w'=>e= .returned (.tuple #[.agg #[.int .i64 o,.int .i64 (dn:Int),.int .i64 (an:Int),.int .i64 (bn:Int),.int .i64 i],.bool true])∧Below wk.heap.size wk w'):=hid (fun wk hk=>by
  have:=I4 (w4 c.m c.a.toNat) hvb.1 hvb.2 r wk hk;unfold dcV at this;rw[hd]at this;exact this)
 obtain⟨V,hV⟩:∃V,w4 c.m c.a.toNat=V:=⟨_,rfl⟩
 rw[hV]at CD;have CL:Hid (Calls prog 110 #[.pointer (some ⟨M,0,none⟩),.int .u32 c.a,.int .i64 4] w fun e w'=>e= .returned (.tuple #[.int .u32 V,.bool true])∧Dr w w'):=hid (by
  have:=CL0;unfold ldP at this;rw[if_pos hl]at this;rw[←hV];exact this)
 have gt:c.a.tmod 4=c.a%4:=Int.tmod_eq_emod_of_nonneg hab.1;have g2:(c.a.tmod 4 !=0)=false:=by rw[gt,h4];rfl
 have g3:(c.a%4 !=0)=false:=by rw[h4];rfl
 have C1:Hid (∀w,Calls prog 84 #[.int .i64 o] w fun e w'=>e= .returned (.int .i64 3)∧w=w'):=hid (fun w=>by rw[←ef];exact D9 o w);have HEF:=hid ef;have HOX:=hid hOX;have HOO:=hid (And.intro o0 o1);obtain⟨ra0,ra1⟩:=h.rb an;obtain⟨rb0,rb1⟩:=h.rb bn;obtain⟨ra,hra⟩:∃x,c.r.getD an 0=x:=⟨_,rfl⟩
 obtain⟨rb,hrb⟩:∃x,c.r.getD bn 0=x:=⟨_,rfl⟩
 obtain⟨n,hn⟩:∃x,i%4294967296=x:=⟨_,rfl⟩
 have hnb:0≤n∧n<4294967296:=by omega
 have HRA:=hid hra;have HRB:=hid hrb;have HN:=hid hn;rw[hra]at ra0 ra1;rw[hrb]at rb0 rb1;have RA:Hid (N0 c (an:Int)=ra):=hid hra;have RB:Hid (N0 c (bn:Int)=rb):=hid hrb;have a0:(0:Int)≤(an:Int):=by omega
 have a1:(an:Int)<32:=by omega
 have b0:(0:Int)≤(bn:Int):=by omega
 have b1:(bn:Int)<32:=by omega
 clear CL0 hl e h ek hV hd hvb gt h4 HX ef hOX o0 o1 hra hrb;go_enter func81,ntmps81;go_upto_region 7 with(first|(go_at_call 110;(with_reducible refine CL.out.mono ?_);rintro e wa ⟨rfl,hdr⟩;have c33':=A0 (hdr.below w.heap.size) hM c33;have c36':=A0 (hdr.below w.heap.size) hM c36;have HA:=hid (H.out.below (hdr.below _));have HB:=hid (hdr.below (w:=w) B);have hsa:=(hdr.below (w:=w) B).size;clear hdr c33 f33 c36)|(go_at_call 57;(with_reducible refine(CD.out _ HA.out.d).mono ?_);rintro e wb ⟨rfl,hbb⟩;have HV:=hid (HA.out.below hbb);have HBB:=hid (HB.out.trans (hbb.mono (by omega)));have hsb:=hbb.size;clear hbb c33' c36'))
 have hC:Cls (wb.alloc (.cells #[.int .i64 o,.int .i64 (dn:Int),.int .i64 (an:Int),.int .i64 (bn:Int),.int .i64 i] 75)) wb.heap.size [.int .i64 o,.int .i64 (dn:Int),.int .i64 (an:Int),.int .i64 (bn:Int),.int .i64 i]:=Cls.made;have hVM:=HV.out.below ((Below.refl _ _).alloc (Nat.le_refl _) (.cells #[.int .i64 o,.int .i64 (dn:Int),.int .i64 (an:Int),.int .i64 (bn:Int),.int .i64 i] 75));have hBW:=HBB.out.trans ((Below.refl B wb).alloc (by omega) (.cells #[.int .i64 o,.int .i64 (dn:Int),.int .i64 (an:Int),.int .i64 (bn:Int),.int .i64 i] 75));have hXl:wb.heap.size<(wb.alloc (.cells #[.int .i64 o,.int .i64 (dn:Int),.int .i64 (an:Int),.int .i64 (bn:Int),.int .i64 i] 75)).heap.size:=by simp
 have hMX:M<wb.heap.size:=HV.out.ltM;clear HV HBB HA HB CL CD;generalize wb.alloc (.cells #[.int .i64 o,.int .i64 (dn:Int),.int .i64 (an:Int),.int .i64 (bn:Int),.int .i64 i] 75)=W7 at*
 generalize wb.heap.size=X at*
 have HC:=hid hC;have HVM:=hid hVM;have HBW:=hid hBW;obtain⟨⟨z0,z1,z2,z3,z4⟩,-⟩:=hC.five;have q1:=(hVM.reg han).1;have q2:=(hVM.reg hbn).1;rw[HRA.out]at q1;rw[HRB.out]at q2;clear hC hVM hBW;go_quiet(fail)
 have HC2:=hid (HC.out.below hXl (Dr.below (w:=W7) ⟨nq,rfl⟩ W7.heap.size));have HV2:=hid (HVM.out.below (Dr.below (w:=W7) ⟨nq,rfl⟩ W7.heap.size));have HB2:=hid (HBW.out.trans (Dr.below (w:=W7) ⟨nq,rfl⟩ B));clear z0 z1 z2 z3 z4 q1 q2 HC HVM HBW;generalize W7.drewN nq=wq at*
 obtain⟨⟨z0,z1,z2,z3,z4⟩,-⟩:=HC2.out.five;obtain⟨⟨c33,f33⟩,-,⟨c35,f35⟩,-⟩:=HV2.out.cells;have hMq:=HV2.out.ltM;have hmx:¬M=X:=by omega
 have hxm:¬X=M:=by omega
 have CS:=hid (fun wk (hk:VM B M r mv c wk)=>S9 dn (n*4096%4294967296) wk hk hdn ⟨by omega,by omega⟩);have rn:bits .or .u32 0 0=0:=rfl;go_wp2_with(first|(go_at_call 84;(with_reducible refine(C1.out _).mono ?_);rintro e w1 ⟨rfl,rfl⟩)|(go_at_call 111;(with_reducible refine(CS.out _ (by first|exact HV2.out|exact HV2.out.below (Below.refl _ _).drew)).mono ?_);rintro e ws ⟨rfl,hvs,hbs⟩;have HVS:=hid hvs;have HBS:=hid hbs;clear hvs hbs))
 exact B3T
set_option maxHeartbeats 4000000 in
theorem A8I{B M r:Nat}{mv:Value}{c:Mac}(w:World)(h:VM B M r mv c w)(hB:B≤w.heap.size)(hl:c.a.toNat+4≤c.m.length)(h4:c.a%4=0)(o i:Int)(dn an bn:Nat)(hd:P8 (w4 c.m c.a.toNat)=some ⟨o,dn,an,bn,i⟩)(o0:25≤o)(o1:o≤27)(hdn:dn<32)(han:an<32)(hbn:bn<32):
  Calls prog 81 #[.pointer (some ⟨M,0,none⟩)] w (SvP B M r mv c (G4 c) w):=by
 have e:G4 c=exV ⟨o,dn,an,bn,i⟩ c:=by unfold G4;rw[if_pos hl,if_pos h4,hd]
 rw[e];have ef:fmR o=4:=A6w (by omega) (by omega);have HX:Hid (exV ⟨o,dn,an,bn,i⟩ c=exV ⟨o,dn,an,bn,i⟩ c):=hid rfl;obtain⟨OX,hOX⟩:∃OX,exV ⟨o,dn,an,bn,i⟩ c=OX:=⟨_,rfl⟩
 rw[hOX];have H:=hid h;obtain⟨⟨c33,f33⟩,-,-,c36⟩:=h.cells;have hab:=h.ab;have hM:=h.ltM;have hBM:=h.n4;have ek:((c.a.toNat:Nat):Int)=c.a:=by omega
 have CL0:=J8 c.a.toNat w h (by omega) 4 (by simp);rw[ek]at CL0;have hvb:=Q9 h.mb c.a.toNat;have CD:Hid (∀wk,DecIs wk r 39→Calls prog 57 #[.map (some r),.int .u32 (w4 c.m c.a.toNat)] wk fun e w'=>e= .returned (.tuple #[.agg #[.int .i64 o,.int .i64 (dn:Int),.int .i64 (an:Int),.int .i64 (bn:Int),.int .i64 i],.bool true])∧Below wk.heap.size wk w'):=hid (fun wk hk=>by
  have:=I4 (w4 c.m c.a.toNat) hvb.1 hvb.2 r wk hk;unfold dcV at this;rw[hd]at this;exact this)
 obtain⟨V,hV⟩:∃V,w4 c.m c.a.toNat=V:=⟨_,rfl⟩
 rw[hV]at CD;have CL:Hid (Calls prog 110 #[.pointer (some ⟨M,0,none⟩),.int .u32 c.a,.int .i64 4] w fun e w'=>e= .returned (.tuple #[.int .u32 V,.bool true])∧Dr w w'):=hid (by
  have:=CL0;unfold ldP at this;rw[if_pos hl]at this;rw[←hV];exact this)
 have gt:c.a.tmod 4=c.a%4:=Int.tmod_eq_emod_of_nonneg hab.1;have g2:(c.a.tmod 4 !=0)=false:=by rw[gt,h4];rfl
 have g3:(c.a%4 !=0)=false:=by rw[h4];rfl
 have C1:Hid (∀w,Calls prog 84 #[.int .i64 o] w fun e w'=>e= .returned (.int .i64 4)∧w=w'):=hid (fun w=>by rw[←ef];exact D9 o w);have HEF:=hid ef;have HOX:=hid hOX;have HOO:=hid (And.intro o0 o1);obtain⟨ra0,ra1⟩:=h.rb an;obtain⟨rb0,rb1⟩:=h.rb bn;obtain⟨ra,hra⟩:∃x,c.r.getD an 0=x:=⟨_,rfl⟩
 obtain⟨rb,hrb⟩:∃x,c.r.getD bn 0=x:=⟨_,rfl⟩
 obtain⟨n,hn⟩:∃x,i%4294967296=x:=⟨_,rfl⟩
 have hnb:0≤n∧n<4294967296:=by omega
 have HRA:=hid hra;have HRB:=hid hrb;have HN:=hid hn;rw[hra]at ra0 ra1;rw[hrb]at rb0 rb1;have RA:Hid (N0 c (an:Int)=ra):=hid hra;have RB:Hid (N0 c (bn:Int)=rb):=hid hrb;have a0:(0:Int)≤(an:Int):=by omega
 have a1:(an:Int)<32:=by omega
 have b0:(0:Int)≤(bn:Int):=by omega
 have b1:(bn:Int)<32:=by omega
 clear CL0 hl e h ek hV hd hvb gt h4 HX ef hOX o0 o1 hra hrb;go_enter func81,ntmps81;go_upto_region 7 with(first|(go_at_call 110;(with_reducible refine CL.out.mono ?_);rintro e wa ⟨rfl,hdr⟩;have c33':=A0 (hdr.below w.heap.size) hM c33;have c36':=A0 (hdr.below w.heap.size) hM c36;have HA:=hid (H.out.below (hdr.below _));have HB:=hid (hdr.below (w:=w) B);have hsa:=(hdr.below (w:=w) B).size;clear hdr c33 f33 c36)|(go_at_call 57;(with_reducible refine(CD.out _ HA.out.d).mono ?_);rintro e wb ⟨rfl,hbb⟩;have HV:=hid (HA.out.below hbb);have HBB:=hid (HB.out.trans (hbb.mono (by omega)));have hsb:=hbb.size;clear hbb c33' c36'))
 have hC:Cls (wb.alloc (.cells #[.int .i64 o,.int .i64 (dn:Int),.int .i64 (an:Int),.int .i64 (bn:Int),.int .i64 i] 75)) wb.heap.size [.int .i64 o,.int .i64 (dn:Int),.int .i64 (an:Int),.int .i64 (bn:Int),.int .i64 i]:=Cls.made;have hVM:=HV.out.below ((Below.refl _ _).alloc (Nat.le_refl _) (.cells #[.int .i64 o,.int .i64 (dn:Int),.int .i64 (an:Int),.int .i64 (bn:Int),.int .i64 i] 75));have hBW:=HBB.out.trans ((Below.refl B wb).alloc (by omega) (.cells #[.int .i64 o,.int .i64 (dn:Int),.int .i64 (an:Int),.int .i64 (bn:Int),.int .i64 i] 75));have hXl:wb.heap.size<(wb.alloc (.cells #[.int .i64 o,.int .i64 (dn:Int),.int .i64 (an:Int),.int .i64 (bn:Int),.int .i64 i] 75)).heap.size:=by simp
 have hMX:M<wb.heap.size:=HV.out.ltM;clear HV HBB HA HB CL CD;generalize wb.alloc (.cells #[.int .i64 o,.int .i64 (dn:Int),.int .i64 (an:Int),.int .i64 (bn:Int),.int .i64 i] 75)=W7 at*
 generalize wb.heap.size=X at*
 have HC:=hid hC;have HVM:=hid hVM;have HBW:=hid hBW;obtain⟨⟨z0,z1,z2,z3,z4⟩,-⟩:=hC.five;have q1:=(hVM.reg han).1;have q2:=(hVM.reg hbn).1;rw[HRA.out]at q1;rw[HRB.out]at q2;clear hC hVM hBW;go_quiet(fail)
 have HC2:=hid (HC.out.below hXl (Dr.below (w:=W7) ⟨nq,rfl⟩ W7.heap.size));have HV2:=hid (HVM.out.below (Dr.below (w:=W7) ⟨nq,rfl⟩ W7.heap.size));have HB2:=hid (HBW.out.trans (Dr.below (w:=W7) ⟨nq,rfl⟩ B));clear z0 z1 z2 z3 z4 q1 q2 HC HVM HBW;generalize W7.drewN nq=wq at*
 obtain⟨⟨z0,z1,z2,z3,z4⟩,-⟩:=HC2.out.five;obtain⟨⟨c33,f33⟩,-,⟨c35,f35⟩,-⟩:=HV2.out.cells;have hMq:=HV2.out.ltM;have hmx:¬M=X:=by omega
 have hxm:¬X=M:=by omega
 obtain⟨K,hK⟩:∃K:Nat,(ra+n)%4294967296=(K:Int):=⟨((ra+n)%4294967296).toNat,by omega⟩
 have HK:Hid (((ra+n)%4294967296).toNat=K):=hid (by omega);have hKb:K<4294967296:=by omega
 have CZ:=hid (fun wk=>A1f o (by have:=HOO.out;omega) (by have:=HOO.out;omega) wk);obtain⟨S,hS⟩:∃S,szR o=S:=⟨_,rfl⟩
 have hS2:S=1∨S=2∨S=4:=by
  rw[←hS];unfold szR;split;·simp
  ·split<;>simp
 have HS:=hid hS;rw[hS]at CZ;clear hS;by_cases hz:K+S≤c.m.length
 ·have CLD:=hid (fun wk (hk:VM B M r mv c wk)=>J8 K wk hk hKb S hS2);have e9:ldP c.m K S= .tuple #[.int .u32 (Y6 c.m K S),.bool true]:=by unfold ldP;rw[if_pos hz]
  rw[e9]at CLD;have hlb:=B1y HV2.out.mb K S;obtain⟨L,hL⟩:∃L,Y6 c.m K S=L:=⟨_,rfl⟩
  rw[hL]at CLD hlb;have HL:=hid hL;have CS:=hid (fun wk (hk:VM B M r mv c wk)=>S9 dn L wk hk hdn hlb);have HZ:=hid hz;clear e9 hL hz hKb hS2;go_wp2_with(first|(go_at_call 84;(with_reducible refine(C1.out _).mono ?_);rintro e w1 ⟨rfl,rfl⟩)|(go_at_call 113;(with_reducible refine(CZ.out _).mono ?_);rintro e w1 ⟨rfl,rfl⟩)|(go_at_call 110;(with_reducible refine(CLD.out _ HV2.out).mono ?_);rintro e wl ⟨rfl,hdr⟩;have HV3:=hid (HV2.out.below (hdr.below _));have HB3:=hid (HB2.out.trans (hdr.below B));have z1':=(HC2.out.below (HC2.out.lt (by simp)) (hdr.below _)).five.1.2.1;clear hdr z0 z1 z2 z3 z4)|(go_at_call 111;(with_reducible refine(CS.out _ HV3.out).mono ?_);rintro e ws ⟨rfl,hvs,hbs⟩;have HVS:=hid hvs;have HBS:=hid hbs;clear hvs hbs))
  go_ret;exact SvP.yes (by rw[←HOX.out];unfold exV;simp only[HEF.out,Int.reduceEq,or_self,or_false,false_or,true_or,or_true,if_true,if_false,HN.out,RA.out,RB.out,Int.toNat_natCast,HS.out,HK.out];rw[if_pos HZ.out,HL.out]) HVS.out (HB3.out.trans HBS.out)
 ·have CLD:=hid (fun wk (hk:VM B M r mv c wk)=>J8 K wk hk hKb S hS2);have e9:ldP c.m K S= .tuple #[.int .u32 0,.bool false]:=by unfold ldP;rw[if_neg hz]
  rw[e9]at CLD;have HZ:=hid hz;clear e9 hz hKb hS2;go_wp2_with(first|(go_at_call 84;(with_reducible refine(C1.out _).mono ?_);rintro e w1 ⟨rfl,rfl⟩)|(go_at_call 113;(with_reducible refine(CZ.out _).mono ?_);rintro e w1 ⟨rfl,rfl⟩)|(go_at_call 110;(with_reducible refine(CLD.out _ HV2.out).mono ?_);rintro e wl ⟨rfl,hdr⟩;have HV3:=hid (HV2.out.below (hdr.below _));have HB3:=hid (HB2.out.trans (hdr.below B));clear hdr))
  go_ret;exact SvP.no (by rw[←HOX.out];unfold exV;simp only[HEF.out,Int.reduceEq,or_self,or_false,false_or,true_or,or_true,if_true,if_false,HN.out,RA.out,RB.out,Int.toNat_natCast,HS.out,HK.out];rw[if_neg HZ.out]) HV3.out HB3.out
set_option maxHeartbeats 4000000 in
theorem A8H{B M r:Nat}{mv:Value}{c:Mac}(w:World)(h:VM B M r mv c w)(hB:B≤w.heap.size)(hl:c.a.toNat+4≤c.m.length)(h4:c.a%4=0)(o i:Int)(dn an bn:Nat)(hd:P8 (w4 c.m c.a.toNat)=some ⟨o,dn,an,bn,i⟩)(o0:28≤o)(o1:o≤30)(hdn:dn<32)(han:an<32)(hbn:bn<32):
  Calls prog 81 #[.pointer (some ⟨M,0,none⟩)] w (SvP B M r mv c (G4 c) w):=by
 have e:G4 c=exV ⟨o,dn,an,bn,i⟩ c:=by unfold G4;rw[if_pos hl,if_pos h4,hd]
 rw[e];have ef:fmR o=5:=A6v (by omega) (by omega);have HX:Hid (exV ⟨o,dn,an,bn,i⟩ c=exV ⟨o,dn,an,bn,i⟩ c):=hid rfl;obtain⟨OX,hOX⟩:∃OX,exV ⟨o,dn,an,bn,i⟩ c=OX:=⟨_,rfl⟩
 rw[hOX];have H:=hid h;obtain⟨⟨c33,f33⟩,-,-,c36⟩:=h.cells;have hab:=h.ab;have hM:=h.ltM;have hBM:=h.n4;have ek:((c.a.toNat:Nat):Int)=c.a:=by omega
 have CL0:=J8 c.a.toNat w h (by omega) 4 (by simp);rw[ek]at CL0;have hvb:=Q9 h.mb c.a.toNat;have CD:Hid (∀wk,DecIs wk r 39→Calls prog 57 #[.map (some r),.int .u32 (w4 c.m c.a.toNat)] wk fun e w'=>e= .returned (.tuple #[.agg #[.int .i64 o,.int .i64 (dn:Int),.int .i64 (an:Int),.int .i64 (bn:Int),.int .i64 i],.bool true])∧Below wk.heap.size wk w'):=hid (fun wk hk=>by
  have:=I4 (w4 c.m c.a.toNat) hvb.1 hvb.2 r wk hk;unfold dcV at this;rw[hd]at this;exact this)
 obtain⟨V,hV⟩:∃V,w4 c.m c.a.toNat=V:=⟨_,rfl⟩
 rw[hV]at CD;have CL:Hid (Calls prog 110 #[.pointer (some ⟨M,0,none⟩),.int .u32 c.a,.int .i64 4] w fun e w'=>e= .returned (.tuple #[.int .u32 V,.bool true])∧Dr w w'):=hid (by
  have:=CL0;unfold ldP at this;rw[if_pos hl]at this;rw[←hV];exact this)
 have gt:c.a.tmod 4=c.a%4:=Int.tmod_eq_emod_of_nonneg hab.1;have g2:(c.a.tmod 4 !=0)=false:=by rw[gt,h4];rfl
 have g3:(c.a%4 !=0)=false:=by rw[h4];rfl
 have C1:Hid (∀w,Calls prog 84 #[.int .i64 o] w fun e w'=>e= .returned (.int .i64 5)∧w=w'):=hid (fun w=>by rw[←ef];exact D9 o w);have HEF:=hid ef;have HOX:=hid hOX;have HOO:=hid (And.intro o0 o1);obtain⟨ra0,ra1⟩:=h.rb an;obtain⟨rb0,rb1⟩:=h.rb bn;obtain⟨ra,hra⟩:∃x,c.r.getD an 0=x:=⟨_,rfl⟩
 obtain⟨rb,hrb⟩:∃x,c.r.getD bn 0=x:=⟨_,rfl⟩
 obtain⟨n,hn⟩:∃x,i%4294967296=x:=⟨_,rfl⟩
 have hnb:0≤n∧n<4294967296:=by omega
 have HRA:=hid hra;have HRB:=hid hrb;have HN:=hid hn;rw[hra]at ra0 ra1;rw[hrb]at rb0 rb1;have RA:Hid (N0 c (an:Int)=ra):=hid hra;have RB:Hid (N0 c (bn:Int)=rb):=hid hrb;have a0:(0:Int)≤(an:Int):=by omega
 have a1:(an:Int)<32:=by omega
 have b0:(0:Int)≤(bn:Int):=by omega
 have b1:(bn:Int)<32:=by omega
 clear CL0 hl e h ek hV hd hvb gt h4 HX ef hOX o0 o1 hra hrb;go_enter func81,ntmps81;go_upto_region 7 with(first|(go_at_call 110;(with_reducible refine CL.out.mono ?_);rintro e wa ⟨rfl,hdr⟩;have c33':=A0 (hdr.below w.heap.size) hM c33;have c36':=A0 (hdr.below w.heap.size) hM c36;have HA:=hid (H.out.below (hdr.below _));have HB:=hid (hdr.below (w:=w) B);have hsa:=(hdr.below (w:=w) B).size;clear hdr c33 f33 c36)|(go_at_call 57;(with_reducible refine(CD.out _ HA.out.d).mono ?_);rintro e wb ⟨rfl,hbb⟩;have HV:=hid (HA.out.below hbb);have HBB:=hid (HB.out.trans (hbb.mono (by omega)));have hsb:=hbb.size;clear hbb c33' c36'))
 have hC:Cls (wb.alloc (.cells #[.int .i64 o,.int .i64 (dn:Int),.int .i64 (an:Int),.int .i64 (bn:Int),.int .i64 i] 75)) wb.heap.size [.int .i64 o,.int .i64 (dn:Int),.int .i64 (an:Int),.int .i64 (bn:Int),.int .i64 i]:=Cls.made;have hVM:=HV.out.below ((Below.refl _ _).alloc (Nat.le_refl _) (.cells #[.int .i64 o,.int .i64 (dn:Int),.int .i64 (an:Int),.int .i64 (bn:Int),.int .i64 i] 75));have hBW:=HBB.out.trans ((Below.refl B wb).alloc (by omega) (.cells #[.int .i64 o,.int .i64 (dn:Int),.int .i64 (an:Int),.int .i64 (bn:Int),.int .i64 i] 75));have hXl:wb.heap.size<(wb.alloc (.cells #[.int .i64 o,.int .i64 (dn:Int),.int .i64 (an:Int),.int .i64 (bn:Int),.int .i64 i] 75)).heap.size:=by simp
 have hMX:M<wb.heap.size:=HV.out.ltM;clear HV HBB HA HB CL CD;generalize wb.alloc (.cells #[.int .i64 o,.int .i64 (dn:Int),.int .i64 (an:Int),.int .i64 (bn:Int),.int .i64 i] 75)=W7 at*
 generalize wb.heap.size=X at*
 have HC:=hid hC;have HVM:=hid hVM;have HBW:=hid hBW;obtain⟨⟨z0,z1,z2,z3,z4⟩,-⟩:=hC.five;have q1:=(hVM.reg han).1;have q2:=(hVM.reg hbn).1;rw[HRA.out]at q1;rw[HRB.out]at q2;clear hC hVM hBW;go_quiet(fail)
 have HC2:=hid (HC.out.below hXl (Dr.below (w:=W7) ⟨nq,rfl⟩ W7.heap.size));have HV2:=hid (HVM.out.below (Dr.below (w:=W7) ⟨nq,rfl⟩ W7.heap.size));have HB2:=hid (HBW.out.trans (Dr.below (w:=W7) ⟨nq,rfl⟩ B));clear z0 z1 z2 z3 z4 q1 q2 HC HVM HBW;generalize W7.drewN nq=wq at*
 obtain⟨⟨z0,z1,z2,z3,z4⟩,-⟩:=HC2.out.five;obtain⟨⟨c33,f33⟩,-,⟨c35,f35⟩,-⟩:=HV2.out.cells;have hMq:=HV2.out.ltM;have hmx:¬M=X:=by omega
 have hxm:¬X=M:=by omega
 obtain⟨K,hK⟩:∃K:Nat,(ra+n)%4294967296=(K:Int):=⟨((ra+n)%4294967296).toNat,by omega⟩
 have HK:Hid (((ra+n)%4294967296).toNat=K):=hid (by omega);have hKb:K<4294967296:=by omega
 have CZ:=hid (fun wk=>A1f o (by have:=HOO.out;omega) (by have:=HOO.out;omega) wk);obtain⟨S,hS⟩:∃S,szR o=S:=⟨_,rfl⟩
 have hS2:S=1∨S=2∨S=4:=by
  rw[←hS];unfold szR;split;·simp
  ·split<;>simp
 have HS:=hid hS;rw[hS]at CZ;clear hS;by_cases hz:K+S≤c.m.length
 ·have CST:Hid (∀wk,VM B M r mv c wk→Calls prog 114 #[.pointer (some ⟨M,0,none⟩),.int .u32 (K:Int),.int .i64 (S:Int),.int .u32 rb] wk fun e w'=>e= .returned (.bool true)∧VM B M r mv {c with m:=I0 c.m K rb S} w'∧Below B wk w'):=hid (fun wk hk=>(A0U K rb wk hk hKb rb0 rb1 S hS2).mono fun e w' h=>by
   obtain⟨h1,⟨h2,h3,h4⟩|⟨h2,h3,h4⟩⟩:=h
   ·exact⟨h3,h4,h1⟩
   ·omega)
  have HZ:=hid hz;have HAB:=hid hab;clear hz hKb hS2;go_wp2_with(first|(go_at_call 84;(with_reducible refine(C1.out _).mono ?_);rintro e w1 ⟨rfl,rfl⟩)|(go_at_call 113;(with_reducible refine(CZ.out _).mono ?_);rintro e w1 ⟨rfl,rfl⟩)|(go_at_call 114;(with_reducible refine(CST.out _ HV2.out).mono ?_);rintro e ws ⟨rfl,hvs,hbs⟩;have HVS:=hid hvs;have HBS:=hid hbs;obtain⟨⟨y33,g33⟩,-,-,-⟩:=hvs.cells;clear hvs hbs c33 f33 c35 f35))
  go_ret;exact SvP.yes (by rw[←HOX.out];unfold exV;simp only[HEF.out,Int.reduceEq,or_self,or_false,false_or,true_or,or_true,if_true,if_false,HN.out,RA.out,RB.out,Int.toNat_natCast,HS.out,HK.out];rw[if_pos HZ.out]) (HVS.out.setA (n:=(c.a+4)%4294967296) ⟨by omega,by omega⟩) (A6 (HB2.out.trans HBS.out) hBM _ _)
 ·have CST:Hid (∀wk,VM B M r mv c wk→Calls prog 114 #[.pointer (some ⟨M,0,none⟩),.int .u32 (K:Int),.int .i64 (S:Int),.int .u32 rb] wk fun e w'=>e= .returned (.bool false)∧VM B M r mv c w'∧Below B wk w'):=hid (fun wk hk=>(A0U K rb wk hk hKb rb0 rb1 S hS2).mono fun e w' h=>by
   obtain⟨h1,⟨h2,h3,h4⟩|⟨h2,h3,h4⟩⟩:=h
   ·exact absurd h2 hz
   ·exact⟨h3,h4,h1⟩)
  have HZ:=hid hz;clear hz hKb hS2;go_wp2_with(first|(go_at_call 84;(with_reducible refine(C1.out _).mono ?_);rintro e w1 ⟨rfl,rfl⟩)|(go_at_call 113;(with_reducible refine(CZ.out _).mono ?_);rintro e w1 ⟨rfl,rfl⟩)|(go_at_call 114;(with_reducible refine(CST.out _ HV2.out).mono ?_);rintro e ws ⟨rfl,hvs,hbs⟩;have HVS:=hid hvs;have HBS:=hid hbs;clear hvs hbs))
  go_ret;exact SvP.no (by rw[←HOX.out];unfold exV;simp only[HEF.out,Int.reduceEq,or_self,or_false,false_or,true_or,or_true,if_true,if_false,HN.out,RA.out,RB.out,Int.toNat_natCast,HS.out,HK.out];rw[if_neg HZ.out]) HVS.out (HB2.out.trans HBS.out)
set_option maxHeartbeats 4000000 in
theorem A8G{B M r:Nat}{mv:Value}{c:Mac}(w:World)(h:VM B M r mv c w)(hB:B≤w.heap.size)(hl:c.a.toNat+4≤c.m.length)(h4:c.a%4=0)(o i:Int)(dn an bn:Nat)(hd:P8 (w4 c.m c.a.toNat)=some ⟨o,dn,an,bn,i⟩)(o0:31≤o)(o1:o≤36)(hdn:dn<32)(han:an<32)(hbn:bn<32):
  Calls prog 81 #[.pointer (some ⟨M,0,none⟩)] w (SvP B M r mv c (G4 c) w):=by
 have e:G4 c=exV ⟨o,dn,an,bn,i⟩ c:=by unfold G4;rw[if_pos hl,if_pos h4,hd]
 rw[e];have ef:fmR o=6:=A6u (by omega) (by omega);have HX:Hid (exV ⟨o,dn,an,bn,i⟩ c=exV ⟨o,dn,an,bn,i⟩ c):=hid rfl;obtain⟨OX,hOX⟩:∃OX,exV ⟨o,dn,an,bn,i⟩ c=OX:=⟨_,rfl⟩
 rw[hOX];have H:=hid h;obtain⟨⟨c33,f33⟩,-,-,c36⟩:=h.cells;have hab:=h.ab;have hM:=h.ltM;have hBM:=h.n4;have ek:((c.a.toNat:Nat):Int)=c.a:=by omega
 have CL0:=J8 c.a.toNat w h (by omega) 4 (by simp);rw[ek]at CL0;have hvb:=Q9 h.mb c.a.toNat;have CD:Hid (∀wk,DecIs wk r 39→Calls prog 57 #[.map (some r),.int .u32 (w4 c.m c.a.toNat)] wk fun e w'=>e= .returned (.tuple #[.agg #[.int .i64 o,.int .i64 (dn:Int),.int .i64 (an:Int),.int .i64 (bn:Int),.int .i64 i],.bool true])∧Below wk.heap.size wk w'):=hid (fun wk hk=>by
  have:=I4 (w4 c.m c.a.toNat) hvb.1 hvb.2 r wk hk;unfold dcV at this;rw[hd]at this;exact this)
 obtain⟨V,hV⟩:∃V,w4 c.m c.a.toNat=V:=⟨_,rfl⟩
 rw[hV]at CD;have CL:Hid (Calls prog 110 #[.pointer (some ⟨M,0,none⟩),.int .u32 c.a,.int .i64 4] w fun e w'=>e= .returned (.tuple #[.int .u32 V,.bool true])∧Dr w w'):=hid (by
  have:=CL0;unfold ldP at this;rw[if_pos hl]at this;rw[←hV];exact this)
 have gt:c.a.tmod 4=c.a%4:=Int.tmod_eq_emod_of_nonneg hab.1;have g2:(c.a.tmod 4 !=0)=false:=by rw[gt,h4];rfl
 have g3:(c.a%4 !=0)=false:=by rw[h4];rfl
 have C1:Hid (∀w,Calls prog 84 #[.int .i64 o] w fun e w'=>e= .returned (.int .i64 6)∧w=w'):=hid (fun w=>by rw[←ef];exact D9 o w);have HEF:=hid ef;have HOX:=hid hOX;have HOO:=hid (And.intro o0 o1);obtain⟨ra0,ra1⟩:=h.rb an;obtain⟨rb0,rb1⟩:=h.rb bn;obtain⟨ra,hra⟩:∃x,c.r.getD an 0=x:=⟨_,rfl⟩
 obtain⟨rb,hrb⟩:∃x,c.r.getD bn 0=x:=⟨_,rfl⟩
 obtain⟨n,hn⟩:∃x,i%4294967296=x:=⟨_,rfl⟩
 have hnb:0≤n∧n<4294967296:=by omega
 have HRA:=hid hra;have HRB:=hid hrb;have HN:=hid hn;rw[hra]at ra0 ra1;rw[hrb]at rb0 rb1;have RA:Hid (N0 c (an:Int)=ra):=hid hra;have RB:Hid (N0 c (bn:Int)=rb):=hid hrb;have a0:(0:Int)≤(an:Int):=by omega
 have a1:(an:Int)<32:=by omega
 have b0:(0:Int)≤(bn:Int):=by omega
 have b1:(bn:Int)<32:=by omega
 clear CL0 hl e h ek hV hd hvb gt h4 HX ef hOX o0 o1 hra hrb;go_enter func81,ntmps81;go_upto_region 7 with(first|(go_at_call 110;(with_reducible refine CL.out.mono ?_);rintro e wa ⟨rfl,hdr⟩;have c33':=A0 (hdr.below w.heap.size) hM c33;have c36':=A0 (hdr.below w.heap.size) hM c36;have HA:=hid (H.out.below (hdr.below _));have HB:=hid (hdr.below (w:=w) B);have hsa:=(hdr.below (w:=w) B).size;clear hdr c33 f33 c36)|(go_at_call 57;(with_reducible refine(CD.out _ HA.out.d).mono ?_);rintro e wb ⟨rfl,hbb⟩;have HV:=hid (HA.out.below hbb);have HBB:=hid (HB.out.trans (hbb.mono (by omega)));have hsb:=hbb.size;clear hbb c33' c36'))
 have hC:Cls (wb.alloc (.cells #[.int .i64 o,.int .i64 (dn:Int),.int .i64 (an:Int),.int .i64 (bn:Int),.int .i64 i] 75)) wb.heap.size [.int .i64 o,.int .i64 (dn:Int),.int .i64 (an:Int),.int .i64 (bn:Int),.int .i64 i]:=Cls.made;have hVM:=HV.out.below ((Below.refl _ _).alloc (Nat.le_refl _) (.cells #[.int .i64 o,.int .i64 (dn:Int),.int .i64 (an:Int),.int .i64 (bn:Int),.int .i64 i] 75));have hBW:=HBB.out.trans ((Below.refl B wb).alloc (by omega) (.cells #[.int .i64 o,.int .i64 (dn:Int),.int .i64 (an:Int),.int .i64 (bn:Int),.int .i64 i] 75));have hXl:wb.heap.size<(wb.alloc (.cells #[.int .i64 o,.int .i64 (dn:Int),.int .i64 (an:Int),.int .i64 (bn:Int),.int .i64 i] 75)).heap.size:=by simp
 have hMX:M<wb.heap.size:=HV.out.ltM;clear HV HBB HA HB CL CD;generalize wb.alloc (.cells #[.int .i64 o,.int .i64 (dn:Int),.int .i64 (an:Int),.int .i64 (bn:Int),.int .i64 i] 75)=W7 at*
 generalize wb.heap.size=X at*
 have HC:=hid hC;have HVM:=hid hVM;have HBW:=hid hBW;obtain⟨⟨z0,z1,z2,z3,z4⟩,-⟩:=hC.five;have q1:=(hVM.reg han).1;have q2:=(hVM.reg hbn).1;rw[HRA.out]at q1;rw[HRB.out]at q2;clear hC hVM hBW;go_quiet(fail)
 have HC2:=hid (HC.out.below hXl (Dr.below (w:=W7) ⟨nq,rfl⟩ W7.heap.size));have HV2:=hid (HVM.out.below (Dr.below (w:=W7) ⟨nq,rfl⟩ W7.heap.size));have HB2:=hid (HBW.out.trans (Dr.below (w:=W7) ⟨nq,rfl⟩ B));clear z0 z1 z2 z3 z4 q1 q2 HC HVM HBW;generalize W7.drewN nq=wq at*
 obtain⟨⟨z0,z1,z2,z3,z4⟩,-⟩:=HC2.out.five;obtain⟨⟨c33,f33⟩,-,⟨c35,f35⟩,-⟩:=HV2.out.cells;have hMq:=HV2.out.ltM;have hmx:¬M=X:=by omega
 have hxm:¬X=M:=by omega
 have CT:=hid (fun wk=>A4K o (by have:=HOO.out;omega) (by have:=HOO.out;omega) ra rb wk);cases ht:tkR o ra rb
 ·have HT:=hid ht;rw[ht]at CT;clear ht;go_wp2_with(first|(go_at_call 84;(with_reducible refine(C1.out _).mono ?_);rintro e w1 ⟨rfl,rfl⟩)|(go_at_call 115;(with_reducible refine(CT.out _).mono ?_);rintro e w1 ⟨rfl,rfl⟩))
  go_ret;exact SvP.yes (by rw[←HOX.out];unfold exV;simp only[HEF.out,Int.reduceEq,or_self,or_false,false_or,true_or,or_true,if_true,if_false,HN.out,RA.out,RB.out,Int.toNat_natCast];rw[if_neg (by rw[HT.out];decide)]) (HV2.out.setA (n:=(c.a+4)%4294967296) ⟨by omega,by omega⟩) (A6 HB2.out hBM _ _)
 ·have HT:=hid ht;rw[ht]at CT;clear ht;go_wp2_with(first|(go_at_call 84;(with_reducible refine(C1.out _).mono ?_);rintro e w1 ⟨rfl,rfl⟩)|(go_at_call 115;(with_reducible refine(CT.out _).mono ?_);rintro e w1 ⟨rfl,rfl⟩))
  go_ret;exact SvP.yes (by rw[←HOX.out];unfold exV;simp only[HEF.out,Int.reduceEq,or_self,or_false,false_or,true_or,or_true,if_true,if_false,HN.out,RA.out,RB.out,Int.toNat_natCast];rw[if_pos HT.out]) (HV2.out.setA (n:=(c.a+n)%4294967296) ⟨by omega,by omega⟩) (A6 HB2.out hBM _ _)
set_option maxHeartbeats 4000000 in
theorem A8F{B M r:Nat}{mv:Value}{c:Mac}(w:World)(h:VM B M r mv c w)(hB:B≤w.heap.size)(hl:c.a.toNat+4≤c.m.length)(h4:c.a%4=0)(o i:Int)(dn an bn:Nat)(hd:P8 (w4 c.m c.a.toNat)=some ⟨o,dn,an,bn,i⟩)(o0:37≤o)(o1:o≤37)(hdn:dn<32)(han:an<32)(hbn:bn<32):
  Calls prog 81 #[.pointer (some ⟨M,0,none⟩)] w (SvP B M r mv c (G4 c) w):=by
 have e:G4 c=exV ⟨o,dn,an,bn,i⟩ c:=by unfold G4;rw[if_pos hl,if_pos h4,hd]
 rw[e];have ef:fmR o=7:=A6t (by omega) (by omega);have HX:Hid (exV ⟨o,dn,an,bn,i⟩ c=exV ⟨o,dn,an,bn,i⟩ c):=hid rfl;obtain⟨OX,hOX⟩:∃OX,exV ⟨o,dn,an,bn,i⟩ c=OX:=⟨_,rfl⟩
 rw[hOX];have H:=hid h;obtain⟨⟨c33,f33⟩,-,-,c36⟩:=h.cells;have hab:=h.ab;have hM:=h.ltM;have hBM:=h.n4;have ek:((c.a.toNat:Nat):Int)=c.a:=by omega
 have CL0:=J8 c.a.toNat w h (by omega) 4 (by simp);rw[ek]at CL0;have hvb:=Q9 h.mb c.a.toNat;have CD:Hid (∀wk,DecIs wk r 39→Calls prog 57 #[.map (some r),.int .u32 (w4 c.m c.a.toNat)] wk fun e w'=>e= .returned (.tuple #[.agg #[.int .i64 o,.int .i64 (dn:Int),.int .i64 (an:Int),.int .i64 (bn:Int),.int .i64 i],.bool true])∧Below wk.heap.size wk w'):=hid (fun wk hk=>by
  have:=I4 (w4 c.m c.a.toNat) hvb.1 hvb.2 r wk hk;unfold dcV at this;rw[hd]at this;exact this)
 obtain⟨V,hV⟩:∃V,w4 c.m c.a.toNat=V:=⟨_,rfl⟩
 rw[hV]at CD;have CL:Hid (Calls prog 110 #[.pointer (some ⟨M,0,none⟩),.int .u32 c.a,.int .i64 4] w fun e w'=>e= .returned (.tuple #[.int .u32 V,.bool true])∧Dr w w'):=hid (by
  have:=CL0;unfold ldP at this;rw[if_pos hl]at this;rw[←hV];exact this)
 have gt:c.a.tmod 4=c.a%4:=Int.tmod_eq_emod_of_nonneg hab.1;have g2:(c.a.tmod 4 !=0)=false:=by rw[gt,h4];rfl
 have g3:(c.a%4 !=0)=false:=by rw[h4];rfl
 have C1:Hid (∀w,Calls prog 84 #[.int .i64 o] w fun e w'=>e= .returned (.int .i64 7)∧w=w'):=hid (fun w=>by rw[←ef];exact D9 o w);have HEF:=hid ef;have HOX:=hid hOX;have HOO:=hid (And.intro o0 o1);obtain⟨ra0,ra1⟩:=h.rb an;obtain⟨rb0,rb1⟩:=h.rb bn;obtain⟨ra,hra⟩:∃x,c.r.getD an 0=x:=⟨_,rfl⟩
 obtain⟨rb,hrb⟩:∃x,c.r.getD bn 0=x:=⟨_,rfl⟩
 obtain⟨n,hn⟩:∃x,i%4294967296=x:=⟨_,rfl⟩
 have hnb:0≤n∧n<4294967296:=by omega
 have HRA:=hid hra;have HRB:=hid hrb;have HN:=hid hn;rw[hra]at ra0 ra1;rw[hrb]at rb0 rb1;have RA:Hid (N0 c (an:Int)=ra):=hid hra;have RB:Hid (N0 c (bn:Int)=rb):=hid hrb;have a0:(0:Int)≤(an:Int):=by omega
 have a1:(an:Int)<32:=by omega
 have b0:(0:Int)≤(bn:Int):=by omega
 have b1:(bn:Int)<32:=by omega
 clear CL0 hl e h ek hV hd hvb gt h4 HX ef hOX o0 o1 hra hrb;go_enter func81,ntmps81;go_upto_region 7 with(first|(go_at_call 110;(with_reducible refine CL.out.mono ?_);rintro e wa ⟨rfl,hdr⟩;have c33':=A0 (hdr.below w.heap.size) hM c33;have c36':=A0 (hdr.below w.heap.size) hM c36;have HA:=hid (H.out.below (hdr.below _));have HB:=hid (hdr.below (w:=w) B);have hsa:=(hdr.below (w:=w) B).size;clear hdr c33 f33 c36)|(go_at_call 57;(with_reducible refine(CD.out _ HA.out.d).mono ?_);rintro e wb ⟨rfl,hbb⟩;have HV:=hid (HA.out.below hbb);have HBB:=hid (HB.out.trans (hbb.mono (by omega)));have hsb:=hbb.size;clear hbb c33' c36'))
 have hC:Cls (wb.alloc (.cells #[.int .i64 o,.int .i64 (dn:Int),.int .i64 (an:Int),.int .i64 (bn:Int),.int .i64 i] 75)) wb.heap.size [.int .i64 o,.int .i64 (dn:Int),.int .i64 (an:Int),.int .i64 (bn:Int),.int .i64 i]:=Cls.made;have hVM:=HV.out.below ((Below.refl _ _).alloc (Nat.le_refl _) (.cells #[.int .i64 o,.int .i64 (dn:Int),.int .i64 (an:Int),.int .i64 (bn:Int),.int .i64 i] 75));have hBW:=HBB.out.trans ((Below.refl B wb).alloc (by omega) (.cells #[.int .i64 o,.int .i64 (dn:Int),.int .i64 (an:Int),.int .i64 (bn:Int),.int .i64 i] 75));have hXl:wb.heap.size<(wb.alloc (.cells #[.int .i64 o,.int .i64 (dn:Int),.int .i64 (an:Int),.int .i64 (bn:Int),.int .i64 i] 75)).heap.size:=by simp
 have hMX:M<wb.heap.size:=HV.out.ltM;clear HV HBB HA HB CL CD;generalize wb.alloc (.cells #[.int .i64 o,.int .i64 (dn:Int),.int .i64 (an:Int),.int .i64 (bn:Int),.int .i64 i] 75)=W7 at*
 generalize wb.heap.size=X at*
 have HC:=hid hC;have HVM:=hid hVM;have HBW:=hid hBW;obtain⟨⟨z0,z1,z2,z3,z4⟩,-⟩:=hC.five;have q1:=(hVM.reg han).1;have q2:=(hVM.reg hbn).1;rw[HRA.out]at q1;rw[HRB.out]at q2;clear hC hVM hBW;go_quiet(fail)
 have HC2:=hid (HC.out.below hXl (Dr.below (w:=W7) ⟨nq,rfl⟩ W7.heap.size));have HV2:=hid (HVM.out.below (Dr.below (w:=W7) ⟨nq,rfl⟩ W7.heap.size));have HB2:=hid (HBW.out.trans (Dr.below (w:=W7) ⟨nq,rfl⟩ B));clear z0 z1 z2 z3 z4 q1 q2 HC HVM HBW;generalize W7.drewN nq=wq at*
 obtain⟨⟨z0,z1,z2,z3,z4⟩,-⟩:=HC2.out.five;obtain⟨⟨c33,f33⟩,-,⟨c35,f35⟩,-⟩:=HV2.out.cells;have hMq:=HV2.out.ltM;have hmx:¬M=X:=by omega
 have hxm:¬X=M:=by omega
 have CS:=hid (fun wk (hk:VM B M r mv c wk)=>S9 dn ((c.a+4)%4294967296) wk hk hdn ⟨by omega,by omega⟩);have wr4:IntKind.u32.wrap (c.a+4)=(c.a+4)%4294967296:=by simp[IntKind.wrap,IntKind.bits,IntKind.signed]
 go_upto_region 34 with(go_at_call 84;(with_reducible refine(C1.out _).mono ?_);rintro e w1 ⟨rfl,rfl⟩)
 go_region_with (go_at_call 111;(with_reducible refine(CS.out _ (by first|exact HV2.out|exact HV2.out.below (Below.refl _ _).drew)).mono ?_);rintro e ws ⟨rfl,hvs,hbs⟩;have HVS:=hid hvs;have HBS:=hid hbs;obtain⟨⟨y33,g33⟩,-,-,-⟩:=hvs.cells;clear hvs hbs c33 f33 c35 f35)
 all_goals
  go_wp2_with fail
  go_ret;exact SvP.yes (by rw[←HOX.out];unfold exV;simp only[HEF.out,Int.reduceEq,or_self,or_false,false_or,true_or,or_true,if_true,if_false,HN.out,RA.out,RB.out,Int.toNat_natCast]) (HVS.out.setA (n:=(c.a+n)%4294967296) ⟨by omega,by omega⟩) (A6 (by first|exact HB2.out.trans HBS.out|exact HB2.out.drew.trans HBS.out) hBM _ _)
set_option maxHeartbeats 4000000 in
theorem A8E{B M r:Nat}{mv:Value}{c:Mac}(w:World)(h:VM B M r mv c w)(hB:B≤w.heap.size)(hl:c.a.toNat+4≤c.m.length)(h4:c.a%4=0)(o i:Int)(dn an bn:Nat)(hd:P8 (w4 c.m c.a.toNat)=some ⟨o,dn,an,bn,i⟩)(o0:38≤o)(o1:o≤38)(hdn:dn<32)(han:an<32)(hbn:bn<32):
  Calls prog 81 #[.pointer (some ⟨M,0,none⟩)] w (SvP B M r mv c (G4 c) w):=by
 have e:G4 c=exV ⟨o,dn,an,bn,i⟩ c:=by unfold G4;rw[if_pos hl,if_pos h4,hd]
 rw[e];have ef:fmR o=8:=A6s (by omega) (by omega);have HX:Hid (exV ⟨o,dn,an,bn,i⟩ c=exV ⟨o,dn,an,bn,i⟩ c):=hid rfl;obtain⟨OX,hOX⟩:∃OX,exV ⟨o,dn,an,bn,i⟩ c=OX:=⟨_,rfl⟩
 rw[hOX];have H:=hid h;obtain⟨⟨c33,f33⟩,-,-,c36⟩:=h.cells;have hab:=h.ab;have hM:=h.ltM;have hBM:=h.n4;have ek:((c.a.toNat:Nat):Int)=c.a:=by omega
 have CL0:=J8 c.a.toNat w h (by omega) 4 (by simp);rw[ek]at CL0;have hvb:=Q9 h.mb c.a.toNat;have CD:Hid (∀wk,DecIs wk r 39→Calls prog 57 #[.map (some r),.int .u32 (w4 c.m c.a.toNat)] wk fun e w'=>e= .returned (.tuple #[.agg #[.int .i64 o,.int .i64 (dn:Int),.int .i64 (an:Int),.int .i64 (bn:Int),.int .i64 i],.bool true])∧Below wk.heap.size wk w'):=hid (fun wk hk=>by
  have:=I4 (w4 c.m c.a.toNat) hvb.1 hvb.2 r wk hk;unfold dcV at this;rw[hd]at this;exact this)
 obtain⟨V,hV⟩:∃V,w4 c.m c.a.toNat=V:=⟨_,rfl⟩
 rw[hV]at CD;have CL:Hid (Calls prog 110 #[.pointer (some ⟨M,0,none⟩),.int .u32 c.a,.int .i64 4] w fun e w'=>e= .returned (.tuple #[.int .u32 V,.bool true])∧Dr w w'):=hid (by
  have:=CL0;unfold ldP at this;rw[if_pos hl]at this;rw[←hV];exact this)
 have gt:c.a.tmod 4=c.a%4:=Int.tmod_eq_emod_of_nonneg hab.1;have g2:(c.a.tmod 4 !=0)=false:=by rw[gt,h4];rfl
 have g3:(c.a%4 !=0)=false:=by rw[h4];rfl
 have C1:Hid (∀w,Calls prog 84 #[.int .i64 o] w fun e w'=>e= .returned (.int .i64 8)∧w=w'):=hid (fun w=>by rw[←ef];exact D9 o w);have HEF:=hid ef;have HOX:=hid hOX;have HOO:=hid (And.intro o0 o1);obtain⟨ra0,ra1⟩:=h.rb an;obtain⟨rb0,rb1⟩:=h.rb bn;obtain⟨ra,hra⟩:∃x,c.r.getD an 0=x:=⟨_,rfl⟩
 obtain⟨rb,hrb⟩:∃x,c.r.getD bn 0=x:=⟨_,rfl⟩
 obtain⟨n,hn⟩:∃x,i%4294967296=x:=⟨_,rfl⟩
 have hnb:0≤n∧n<4294967296:=by omega
 have HRA:=hid hra;have HRB:=hid hrb;have HN:=hid hn;rw[hra]at ra0 ra1;rw[hrb]at rb0 rb1;have RA:Hid (N0 c (an:Int)=ra):=hid hra;have RB:Hid (N0 c (bn:Int)=rb):=hid hrb;have a0:(0:Int)≤(an:Int):=by omega
 have a1:(an:Int)<32:=by omega
 have b0:(0:Int)≤(bn:Int):=by omega
 have b1:(bn:Int)<32:=by omega
 clear CL0 hl e h ek hV hd hvb gt h4 HX ef hOX o0 o1 hra hrb;go_enter func81,ntmps81;go_upto_region 7 with(first|(go_at_call 110;(with_reducible refine CL.out.mono ?_);rintro e wa ⟨rfl,hdr⟩;have c33':=A0 (hdr.below w.heap.size) hM c33;have c36':=A0 (hdr.below w.heap.size) hM c36;have HA:=hid (H.out.below (hdr.below _));have HB:=hid (hdr.below (w:=w) B);have hsa:=(hdr.below (w:=w) B).size;clear hdr c33 f33 c36)|(go_at_call 57;(with_reducible refine(CD.out _ HA.out.d).mono ?_);rintro e wb ⟨rfl,hbb⟩;have HV:=hid (HA.out.below hbb);have HBB:=hid (HB.out.trans (hbb.mono (by omega)));have hsb:=hbb.size;clear hbb c33' c36'))
 have hC:Cls (wb.alloc (.cells #[.int .i64 o,.int .i64 (dn:Int),.int .i64 (an:Int),.int .i64 (bn:Int),.int .i64 i] 75)) wb.heap.size [.int .i64 o,.int .i64 (dn:Int),.int .i64 (an:Int),.int .i64 (bn:Int),.int .i64 i]:=Cls.made;have hVM:=HV.out.below ((Below.refl _ _).alloc (Nat.le_refl _) (.cells #[.int .i64 o,.int .i64 (dn:Int),.int .i64 (an:Int),.int .i64 (bn:Int),.int .i64 i] 75));have hBW:=HBB.out.trans ((Below.refl B wb).alloc (by omega) (.cells #[.int .i64 o,.int .i64 (dn:Int),.int .i64 (an:Int),.int .i64 (bn:Int),.int .i64 i] 75));have hXl:wb.heap.size<(wb.alloc (.cells #[.int .i64 o,.int .i64 (dn:Int),.int .i64 (an:Int),.int .i64 (bn:Int),.int .i64 i] 75)).heap.size:=by simp
 have hMX:M<wb.heap.size:=HV.out.ltM;clear HV HBB HA HB CL CD;generalize wb.alloc (.cells #[.int .i64 o,.int .i64 (dn:Int),.int .i64 (an:Int),.int .i64 (bn:Int),.int .i64 i] 75)=W7 at*
 generalize wb.heap.size=X at*
 have HC:=hid hC;have HVM:=hid hVM;have HBW:=hid hBW;obtain⟨⟨z0,z1,z2,z3,z4⟩,-⟩:=hC.five;have q1:=(hVM.reg han).1;have q2:=(hVM.reg hbn).1;rw[HRA.out]at q1;rw[HRB.out]at q2;clear hC hVM hBW;go_quiet(fail)
 have HC2:=hid (HC.out.below hXl (Dr.below (w:=W7) ⟨nq,rfl⟩ W7.heap.size));have HV2:=hid (HVM.out.below (Dr.below (w:=W7) ⟨nq,rfl⟩ W7.heap.size));have HB2:=hid (HBW.out.trans (Dr.below (w:=W7) ⟨nq,rfl⟩ B));clear z0 z1 z2 z3 z4 q1 q2 HC HVM HBW;generalize W7.drewN nq=wq at*
 obtain⟨⟨z0,z1,z2,z3,z4⟩,-⟩:=HC2.out.five;obtain⟨⟨c33,f33⟩,-,⟨c35,f35⟩,-⟩:=HV2.out.cells;have hMq:=HV2.out.ltM;have hmx:¬M=X:=by omega
 have hxm:¬X=M:=by omega
 have CS:=hid (fun wk (hk:VM B M r mv c wk)=>S9 dn ((c.a+4)%4294967296) wk hk hdn ⟨by omega,by omega⟩);have wr4:IntKind.u32.wrap (c.a+4)=(c.a+4)%4294967296:=by simp[IntKind.wrap,IntKind.bits,IntKind.signed]
 go_upto_region 37 with(go_at_call 84;(with_reducible refine(C1.out _).mono ?_);rintro e w1 ⟨rfl,rfl⟩)
 go_region_with (go_at_call 111;(with_reducible refine(CS.out _ (by first|exact HV2.out|exact HV2.out.below (Below.refl _ _).drew)).mono ?_);rintro e ws ⟨rfl,hvs,hbs⟩;have HVS:=hid hvs;have HBS:=hid hbs;obtain⟨⟨y33,g33⟩,-,-,-⟩:=hvs.cells;clear hvs hbs c33 f33 c35 f35)
 all_goals
  go_wp2_with fail
  go_ret;exact SvP.yes (by rw[←HOX.out];unfold exV;simp only[HEF.out,Int.reduceEq,or_self,or_false,false_or,true_or,or_true,if_true,if_false,HN.out,RA.out,RB.out,Int.toNat_natCast]) (HVS.out.setA (n:=bits .andNot .u32 ((ra+n)%4294967296) 1) (A5b _ _)) (A6 (by first|exact HB2.out.trans HBS.out|exact HB2.out.drew.trans HBS.out) hBM _ _)
set_option maxHeartbeats 4000000 in
theorem A8D{B M r:Nat}{mv:Value}{c:Mac}(w:World)(h:VM B M r mv c w)(hB:B≤w.heap.size)(hl:c.a.toNat+4≤c.m.length)(h4:c.a%4=0)(o i:Int)(dn an bn:Nat)(hd:P8 (w4 c.m c.a.toNat)=some ⟨o,dn,an,bn,i⟩)(o0:39≤o)(o1:o≤40)(hdn:dn<32)(han:an<32)(hbn:bn<32):
  Calls prog 81 #[.pointer (some ⟨M,0,none⟩)] w (SvP B M r mv c (G4 c) w):=by
 have e:G4 c=exV ⟨o,dn,an,bn,i⟩ c:=by unfold G4;rw[if_pos hl,if_pos h4,hd]
 rw[e];have ef:fmR o=9:=B5Q (by omega) (by omega);have HX:Hid (exV ⟨o,dn,an,bn,i⟩ c=exV ⟨o,dn,an,bn,i⟩ c):=hid rfl;obtain⟨OX,hOX⟩:∃OX,exV ⟨o,dn,an,bn,i⟩ c=OX:=⟨_,rfl⟩
 rw[hOX];have H:=hid h;obtain⟨⟨c33,f33⟩,-,-,c36⟩:=h.cells;have hab:=h.ab;have hM:=h.ltM;have hBM:=h.n4;have ek:((c.a.toNat:Nat):Int)=c.a:=by omega
 have CL0:=J8 c.a.toNat w h (by omega) 4 (by simp);rw[ek]at CL0;have hvb:=Q9 h.mb c.a.toNat;have CD:Hid (∀wk,DecIs wk r 39→Calls prog 57 #[.map (some r),.int .u32 (w4 c.m c.a.toNat)] wk fun e w'=>e= .returned (.tuple #[.agg #[.int .i64 o,.int .i64 (dn:Int),.int .i64 (an:Int),.int .i64 (bn:Int),.int .i64 i],.bool true])∧Below wk.heap.size wk w'):=hid (fun wk hk=>by
  have:=I4 (w4 c.m c.a.toNat) hvb.1 hvb.2 r wk hk;unfold dcV at this;rw[hd]at this;exact this)
 obtain⟨V,hV⟩:∃V,w4 c.m c.a.toNat=V:=⟨_,rfl⟩
 rw[hV]at CD;have CL:Hid (Calls prog 110 #[.pointer (some ⟨M,0,none⟩),.int .u32 c.a,.int .i64 4] w fun e w'=>e= .returned (.tuple #[.int .u32 V,.bool true])∧Dr w w'):=hid (by
  have:=CL0;unfold ldP at this;rw[if_pos hl]at this;rw[←hV];exact this)
 have gt:c.a.tmod 4=c.a%4:=Int.tmod_eq_emod_of_nonneg hab.1;have g2:(c.a.tmod 4 !=0)=false:=by rw[gt,h4];rfl
 have g3:(c.a%4 !=0)=false:=by rw[h4];rfl
 have C1:Hid (∀w,Calls prog 84 #[.int .i64 o] w fun e w'=>e= .returned (.int .i64 9)∧w=w'):=hid (fun w=>by rw[←ef];exact D9 o w);have HEF:=hid ef;have HOX:=hid hOX;have HOO:=hid (And.intro o0 o1);obtain⟨ra0,ra1⟩:=h.rb an;obtain⟨rb0,rb1⟩:=h.rb bn;obtain⟨ra,hra⟩:∃x,c.r.getD an 0=x:=⟨_,rfl⟩
 obtain⟨rb,hrb⟩:∃x,c.r.getD bn 0=x:=⟨_,rfl⟩
 obtain⟨n,hn⟩:∃x,i%4294967296=x:=⟨_,rfl⟩
 have hnb:0≤n∧n<4294967296:=by omega
 have HRA:=hid hra;have HRB:=hid hrb;have HN:=hid hn;rw[hra]at ra0 ra1;rw[hrb]at rb0 rb1;have RA:Hid (N0 c (an:Int)=ra):=hid hra;have RB:Hid (N0 c (bn:Int)=rb):=hid hrb;have a0:(0:Int)≤(an:Int):=by omega
 have a1:(an:Int)<32:=by omega
 have b0:(0:Int)≤(bn:Int):=by omega
 have b1:(bn:Int)<32:=by omega
 clear CL0 hl e h ek hV hd hvb gt h4 HX ef hOX o0 o1 hra hrb;go_enter func81,ntmps81;go_upto_region 7 with(first|(go_at_call 110;(with_reducible refine CL.out.mono ?_);rintro e wa ⟨rfl,hdr⟩;have c33':=A0 (hdr.below w.heap.size) hM c33;have c36':=A0 (hdr.below w.heap.size) hM c36;have HA:=hid (H.out.below (hdr.below _));have HB:=hid (hdr.below (w:=w) B);have hsa:=(hdr.below (w:=w) B).size;clear hdr c33 f33 c36)|(go_at_call 57;(with_reducible refine(CD.out _ HA.out.d).mono ?_);rintro e wb ⟨rfl,hbb⟩;have HV:=hid (HA.out.below hbb);have HBB:=hid (HB.out.trans (hbb.mono (by omega)));have hsb:=hbb.size;clear hbb c33' c36'))
 have hC:Cls (wb.alloc (.cells #[.int .i64 o,.int .i64 (dn:Int),.int .i64 (an:Int),.int .i64 (bn:Int),.int .i64 i] 75)) wb.heap.size [.int .i64 o,.int .i64 (dn:Int),.int .i64 (an:Int),.int .i64 (bn:Int),.int .i64 i]:=Cls.made;have hVM:=HV.out.below ((Below.refl _ _).alloc (Nat.le_refl _) (.cells #[.int .i64 o,.int .i64 (dn:Int),.int .i64 (an:Int),.int .i64 (bn:Int),.int .i64 i] 75));have hBW:=HBB.out.trans ((Below.refl B wb).alloc (by omega) (.cells #[.int .i64 o,.int .i64 (dn:Int),.int .i64 (an:Int),.int .i64 (bn:Int),.int .i64 i] 75));have hXl:wb.heap.size<(wb.alloc (.cells #[.int .i64 o,.int .i64 (dn:Int),.int .i64 (an:Int),.int .i64 (bn:Int),.int .i64 i] 75)).heap.size:=by simp
 have hMX:M<wb.heap.size:=HV.out.ltM;clear HV HBB HA HB CL CD;generalize wb.alloc (.cells #[.int .i64 o,.int .i64 (dn:Int),.int .i64 (an:Int),.int .i64 (bn:Int),.int .i64 i] 75)=W7 at*
 generalize wb.heap.size=X at*
 have HC:=hid hC;have HVM:=hid hVM;have HBW:=hid hBW;obtain⟨⟨z0,z1,z2,z3,z4⟩,-⟩:=hC.five;have q1:=(hVM.reg han).1;have q2:=(hVM.reg hbn).1;rw[HRA.out]at q1;rw[HRB.out]at q2;clear hC hVM hBW;go_quiet(fail)
 have HC2:=hid (HC.out.below hXl (Dr.below (w:=W7) ⟨nq,rfl⟩ W7.heap.size));have HV2:=hid (HVM.out.below (Dr.below (w:=W7) ⟨nq,rfl⟩ W7.heap.size));have HB2:=hid (HBW.out.trans (Dr.below (w:=W7) ⟨nq,rfl⟩ B));clear z0 z1 z2 z3 z4 q1 q2 HC HVM HBW;generalize W7.drewN nq=wq at*
 obtain⟨⟨z0,z1,z2,z3,z4⟩,-⟩:=HC2.out.five;obtain⟨⟨c33,f33⟩,-,⟨c35,f35⟩,-⟩:=HV2.out.cells;have hMq:=HV2.out.ltM;have hmx:¬M=X:=by omega
 have hxm:¬X=M:=by omega
 by_cases h40:o=40
 ·have g:(o==40)=true:=by simp[h40]
  have HG:=hid h40;clear h40;go_wp2_with(go_at_call 84;(with_reducible refine(C1.out _).mono ?_);rintro e w1 ⟨rfl,rfl⟩)
  go_ret;exact SvP.yes (c':={c with e:=1}) (by rw[←HOX.out];unfold exV;simp only[HEF.out,Int.reduceEq,or_self,or_false,false_or,true_or,or_true,if_true,if_false,HN.out,RA.out,RB.out,Int.toNat_natCast];rw[if_pos HG.out]) ((HV2.out.setE 2).setE 1) (A6 (A6 HB2.out hBM _ _) hBM _ _)
 ·have g:(o==40)=false:=by simp[h40]
  have HG:=hid h40;clear h40;go_wp2_with(go_at_call 84;(with_reducible refine(C1.out _).mono ?_);rintro e w1 ⟨rfl,rfl⟩)
  go_ret;exact SvP.yes (c':={c with e:=2}) (by rw[←HOX.out];unfold exV;simp only[HEF.out,Int.reduceEq,or_self,or_false,false_or,true_or,or_true,if_true,if_false,HN.out,RA.out,RB.out,Int.toNat_natCast];rw[if_neg HG.out]) (HV2.out.setE 2) (A6 HB2.out hBM _ _)
end Go.Proofs.YtajljbmeaeeknaaGreat
