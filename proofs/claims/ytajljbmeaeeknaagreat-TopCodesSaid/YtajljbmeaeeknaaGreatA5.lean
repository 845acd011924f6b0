/- -/
import Derived.Test.YtajljbmeaeeknaaGreatA4
open Go.Proofs.Tryz
open Go.Lib (hid)
set_option maxRecDepth 100000
namespace Go.Proofs.YtajljbmeaeeknaaGreat
open Go.RowKit Go.Maps
set_option linter.unusedVariables false
set_option linter.unusedSimpArgs false
theorem q0z{p:Prop}(h:p:=by
 go_enter func57,ntmps57;go_upto_region 13 with(first|(go_at_call 91;(with_reducible refine CF.out.mono ?_);rintro e wa ⟨rfl,hb2⟩;have hsz:w.heap.size+1≤wa.heap.size:=Nat.le_trans (by simp) hb2.size;have HB2:=hid hb2;clear hb2)|(go_at_call 84;(with_reducible refine(C1.out _).mono ?_);rintro e w1 ⟨rfl,rfl⟩)|(go_at_call 85;(with_reducible refine(C2.out _).mono ?_);rintro e wb ⟨rfl,hb3⟩;have HB3:=hid hb3;clear hb3))
 have HD0:DecW w wa.heap.size wb.heap.size [.int .i64 o,.int .i64 0,.int .i64 0,.int .i64 0,.int .i64 0] [.bool true,.bool true,.bool false,.bool true] ((wb.alloc (.cells #[.bool true,.bool true,.bool false,.bool true] 165)).alloc (.cells #[.pointer (some ⟨wa.heap.size,1,none⟩),.pointer (some ⟨wa.heap.size,2,none⟩),.pointer (some ⟨wa.heap.size,3,none⟩)] 173)):=by
  have hb2:=HB2.out;have hb3:=HB3.out;have ha:Below wa.heap.size wa (wa.alloc (.cells #[.int .i64 o,.int .i64 0,.int .i64 0,.int .i64 0,.int .i64 0] 75)):=(Below.refl _ _).alloc (Nat.le_refl _) _;have hl:=hb3.size;rw[World.size_alloc]at hl;have hw:Below wb.heap.size wb ((wb.alloc (.cells #[.bool true,.bool true,.bool false,.bool true] 165)).alloc (.cells #[.pointer (some ⟨wa.heap.size,1,none⟩),.pointer (some ⟨wa.heap.size,2,none⟩),.pointer (some ⟨wa.heap.size,3,none⟩)] 173)):=((Below.refl _ _).alloc (Nat.le_refl _) _).alloc (by simp) _;refine⟨((HC0.out.below (Nat.lt_succ_self _) hb2).below (by omega) (ha.trans (hb3.mono (by rw[World.size_alloc];omega)))).below (by omega) hw,(Cls.below (Cls.made (cs:=[.int .i64 o,.int .i64 0,.int .i64 0,.int .i64 0,.int .i64 0]) (t:=75)) (by rw[World.size_alloc];omega) hb3).below (by omega) hw,Cls.below (Cls.made (cs:=[.bool true,.bool true,.bool false,.bool true]) (t:=165)) (Nat.lt_succ_self _) ((Below.refl _ _).alloc (by simp) _),?_,?_,by omega,by omega,by simp⟩
  ·have:=Cls.made (w:=wb.alloc (.cells #[.bool true,.bool true,.bool false,.bool true] 165)) (cs:=[.pointer (some ⟨wa.heap.size,1,none⟩),.pointer (some ⟨wa.heap.size,2,none⟩),.pointer (some ⟨wa.heap.size,3,none⟩)]) (t:=173);rwa[World.size_alloc]at this
  ·exact((BB.out.trans (hb2.mono (by omega))).trans (ha.mono (by omega))).trans ((hb3.mono (by rw[World.size_alloc];omega)).trans (hw.mono (by omega)))
 have HD:=hid HD0;clear HD0 HB2 HB3 HC0 BB;generalize((wb.alloc (.cells #[.bool true,.bool true,.bool false,.bool true] 165)).alloc (.cells #[.pointer (some ⟨wa.heap.size,1,none⟩),.pointer (some ⟨wa.heap.size,2,none⟩),.pointer (some ⟨wa.heap.size,3,none⟩)] 173))=WL at*
 generalize wa.heap.size=X at*
 generalize wb.heap.size=A at*
 go_loopw[11,12,40] (fun _ _ i wr=>(i= .int .i64 0∧DecW w X A [.int .i64 o,.int .i64 0,.int .i64 0,.int .i64 0,.int .i64 0] [.bool true,.bool true,.bool false,.bool true] wr)∨(i= .int .i64 1∧DecW w X A [.int .i64 o,.int .i64 d,.int .i64 0,.int .i64 0,.int .i64 0] [.bool true,.bool true,.bool false,.bool true] wr)∨(i= .int .i64 2∧DecW w X A [.int .i64 o,.int .i64 d,.int .i64 a,.int .i64 0,.int .i64 0] [.bool true,.bool true,.bool false,.bool true] wr)∨(i= .int .i64 3∧DecW w X A [.int .i64 o,.int .i64 d,.int .i64 a,.int .i64 0,.int .i64 0] [.bool true,.bool true,.bool false,.bool true] wr)) (fun _ _ i _=>3-(intOf i).toNat)
 case atStart=>exact .inl ⟨rfl,HD.out⟩
 case round=>
  clear HD;rcases hrel with⟨rfl,hD⟩|⟨rfl,hD⟩|⟨rfl,hD⟩|⟨rfl,hD⟩
  ·have HD:=hid hD;have n1':=hD.n1;have n2':=hD.n2;have n3':=hD.n3;have s0:=hD.sc.at 0 _ rfl;have a0:=hD.ac.at 0 _ rfl;have x0:=hD.xc.at 1 _ rfl;have xf:=hD.xc.at' 1 _ rfl;have hx1:¬X=wr.heap.size:=by omega
   have hx2:X<wr.heap.size:=by omega
   clear hD;go_wp2_with fail
   go_roundw
   case rel=>exact .inr (.inl ⟨rfl,(HD.out.set (k:=1) (by simp) _).below ((Below.refl _ _).alloc (Nat.le_refl _) _)⟩)
   case measure=>simp[intOf]
  ·have HD:=hid hD;have n1':=hD.n1;have n2':=hD.n2;have n3':=hD.n3;have s0:=hD.sc.at 1 _ rfl;have a0:=hD.ac.at 1 _ rfl;have x0:=hD.xc.at 2 _ rfl;have xf:=hD.xc.at' 2 _ rfl;have hx1:¬X=wr.heap.size:=by omega
   have hx2:X<wr.heap.size:=by omega
   clear hD;go_wp2_with fail
   go_roundw
   case rel=>exact .inr (.inr (.inl ⟨rfl,(HD.out.set (k:=2) (by simp) _).below ((Below.refl _ _).alloc (Nat.le_refl _) _)⟩))
   case measure=>simp[intOf]
  ·have HD:=hid hD;have n1':=hD.n1;have n2':=hD.n2;have n3':=hD.n3;have s0:=hD.sc.at 2 _ rfl;have a0:=hD.ac.at 2 _ rfl;have x0:=hD.xc.at 3 _ rfl;have xf:=hD.xc.at' 3 _ rfl;have hx1:¬X=wr.heap.size:=by omega
   have hx2:X<wr.heap.size:=by omega
   clear hD;go_wp2_with fail
   go_roundw
   case rel=>exact .inr (.inr (.inr (⟨rfl,HD.out⟩)))
   case measure=>simp[intOf]
  ·have HKm:=hid hD;have t1:=hD.n1;have t2:=hD.n2;have t3:=hD.n3;clear hD;have z0:=HKm.out.xc.five.1.1;have z1:=HKm.out.xc.five.1.2.1;have z2:=HKm.out.xc.five.1.2.2.1;have z3:=HKm.out.xc.five.1.2.2.2.1;have z4:=HKm.out.xc.five.1.2.2.2.2;have zf:=HKm.out.xc.five.2.2.2.2.2;cases g:(C7 y==x)
   ·have g1:(C7 y !=x)=true:=by simp[bne,g]
    have HG:=hid g;obtain⟨E,hE⟩:∃E,C7 y=E:=⟨_,rfl⟩
    rw[hE]at CE g1 g;have HEE:=hid hE;clear hE;go_wp2_with(first|(go_at_call 92;(with_reducible refine(CS.out _).mono ?_);rintro e wg ⟨rfl,rfl⟩)|(go_at_call 55;(with_reducible refine(CE.out _).mono ?_);rintro e we ⟨rfl,hbe⟩;have HE:=hid ((HKm.out.set (k:=4) (by simp) _).below hbe);clear hbe z0 z1 z2 z3 z4 zf;obtain⟨⟨z0,z1,z2,z3,z4⟩,y0,y1,y2,y3,y4⟩:=HE.out.xc.five;obtain⟨⟨c0,c1,c2,c3,c4⟩,f0,f1,f2,f3,f4⟩:=HE.out.r0.five;have m1:=HE.out.n1))
    refine bodyPost_ret (v:=.tuple #[.agg (rvC rv0).toArray,.bool false]) (Cls.res2 (cs:=rvC rv0) (((((HE.out.r0.set (k:=0) (by simp[rvC]) _).set (k:=1) (by simp[rvC]) _).set (k:=2) (by simp[rvC]) _).set (k:=3) (by simp[rvC]) _).set (k:=4) (by simp[rvC]) _) rfl rfl rfl underlying75 rfl (by kernel_rfl)) rfl ⟨by rw[←HPV.out,if_neg (by have:=HG.out;simpa using this)];rfl,(A6 (A6 (A6 (A6 (A6 HE.out.bl (Nat.le_refl _) _ _) (Nat.le_refl _) _ _) (Nat.le_refl _) _ _) (Nat.le_refl _) _ _) (Nat.le_refl _) _ _)⟩
   ·have g1:(C7 y !=x)=false:=by simp[bne,g]
    have HG:=hid g;obtain⟨E,hE⟩:∃E,C7 y=E:=⟨_,rfl⟩
    rw[hE]at CE g1 g;have HEE:=hid hE;clear hE;go_wp2_with(first|(go_at_call 92;(with_reducible refine(CS.out _).mono ?_);rintro e wg ⟨rfl,rfl⟩)|(go_at_call 55;(with_reducible refine(CE.out _).mono ?_);rintro e we ⟨rfl,hbe⟩;have HE:=hid ((HKm.out.set (k:=4) (by simp) _).below hbe);clear hbe z0 z1 z2 z3 z4 zf;obtain⟨⟨z0,z1,z2,z3,z4⟩,y0,y1,y2,y3,y4⟩:=HE.out.xc.five;obtain⟨⟨c0,c1,c2,c3,c4⟩,f0,f1,f2,f3,f4⟩:=HE.out.r0.five;have m1:=HE.out.n1))
    refine bodyPost_ret (v:=.tuple #[.agg (#[.int .i64 o,.int .i64 d,.int .i64 a,.int .i64 0,.int .i64 I]),.bool true]) (Cls.res2 (cs:=[.int .i64 o,.int .i64 d,.int .i64 a,.int .i64 0,.int .i64 I]) (((((HE.out.r0.set (k:=0) (by simp[rvC]) _).set (k:=1) (by simp[rvC]) _).set (k:=2) (by simp[rvC]) _).set (k:=3) (by simp[rvC]) _).set (k:=4) (by simp[rvC]) _) rfl rfl rfl underlying75 rfl (by kernel_rfl)) rfl ⟨by rw[←HPV.out,if_pos (by have:=HG.out;simpa using this),HY.out];rfl,(A6 (A6 (A6 (A6 (A6 HE.out.bl (Nat.le_refl _) _ _) (Nat.le_refl _) _ _) (Nat.le_refl _) _ _) (Nat.le_refl _) _ _) (Nat.le_refl _) _ _)⟩
 ):p:=h
theorem q7z{p:Prop}(h:p:=by
 refine bodyPost_ret (v:=.tuple #[.agg (rvC rv0).toArray,.bool false]) (Cls.res2 (cs:=rvC rv0) (((((HE.out.r0.set (k:=0) (by simp[rvC]) _).set (k:=1) (by simp[rvC]) _).set (k:=2) (by simp[rvC]) _).set (k:=3) (by simp[rvC]) _).set (k:=4) (by simp[rvC]) _) rfl rfl rfl underlying75 rfl (by kernel_rfl)) rfl ⟨by rw[←HPV.out,if_neg (by have:=HG.out;simpa using this)];rfl,(A6 (A6 (A6 (A6 (A6 HE.out.bl (Nat.le_refl _) _ _) (Nat.le_refl _) _ _) (Nat.le_refl _) _ _) (Nat.le_refl _) _ _) (Nat.le_refl _) _ _)⟩
 ):p:=h
theorem B4C{p:Prop}(h:p:=by
 go_wp2_with(first|(go_at_call 90;(with_reducible refine(CB0.out _).mono ?_);rintro e wk0 ⟨rfl,hdr⟩;have HK0:=hid (HKm.out.below (hdr.below _));clear hdr)|(go_at_call 90;(with_reducible refine(CB1.out _).mono ?_);rintro e wk1 ⟨rfl,hdr⟩;have HK1:=hid (HK0.out.below (hdr.below _));clear hdr)|(go_at_call 90;(with_reducible refine(CB2.out _).mono ?_);rintro e wk2 ⟨rfl,hdr⟩;have HK2:=hid (HK1.out.below (hdr.below _));clear hdr)|(go_at_call 90;(with_reducible refine(CB3.out _).mono ?_);rintro e wk3 ⟨rfl,hdr⟩;have HK3:=hid (HK2.out.below (hdr.below _));clear hdr;have z0:=HK3.out.xc.five.1.1;have z1:=HK3.out.xc.five.1.2.1;have z2:=HK3.out.xc.five.1.2.2.1;have z3:=HK3.out.xc.five.1.2.2.2.1;have z4:=HK3.out.xc.five.1.2.2.2.2;have zf:=HK3.out.xc.five.2.2.2.2.2)|(go_at_call 92;(with_reducible refine(CS.out _).mono ?_);rintro e wg ⟨rfl,rfl⟩)|(go_at_call 55;(with_reducible refine(CE.out _).mono ?_);rintro e we ⟨rfl,hbe⟩;have HE:=hid ((HK3.out.set (k:=4) (by simp) _).below hbe);clear hbe z0 z1 z2 z3 z4 zf;obtain⟨⟨z0,z1,z2,z3,z4⟩,y0,y1,y2,y3,y4⟩:=HE.out.xc.five;obtain⟨⟨c0,c1,c2,c3,c4⟩,f0,f1,f2,f3,f4⟩:=HE.out.r0.five;have m1:=HE.out.n1))
 exact q7z
 ):p:=h
theorem B3z{p:Prop}(h:p:=by
 refine bodyPost_ret (v:=.tuple #[.agg (#[.int .i64 o,.int .i64 0,.int .i64 a,.int .i64 b,.int .i64 I]),.bool true]) (Cls.res2 (cs:=[.int .i64 o,.int .i64 0,.int .i64 a,.int .i64 b,.int .i64 I]) (((((HE.out.r0.set (k:=0) (by simp[rvC]) _).set (k:=1) (by simp[rvC]) _).set (k:=2) (by simp[rvC]) _).set (k:=3) (by simp[rvC]) _).set (k:=4) (by simp[rvC]) _) rfl rfl rfl underlying75 rfl (by kernel_rfl)) rfl ⟨by rw[←HPV.out,if_pos (by have:=HG.out;simpa using this),HY.out];rfl,(A6 (A6 (A6 (A6 (A6 HE.out.bl (Nat.le_refl _) _ _) (Nat.le_refl _) _ _) (Nat.le_refl _) _ _) (Nat.le_refl _) _ _) (Nat.le_refl _) _ _)⟩
 ):p:=h
theorem A8c{p:Prop}(h:p:=by
 go_wp2_with fail
 go_roundw
 case rel=>exact .inr (.inr (.inl ⟨rfl,(HD.out.set (k:=2) (by simp) _).below ((Below.refl _ _).alloc (Nat.le_refl _) _)⟩))
 case measure=>simp[intOf]
 ):p:=h
theorem A8b{p:Prop}(h:p:=by
 go_wp2_with fail
 go_roundw
 case rel=>exact .inr (.inl ⟨rfl,(HD.out.set (k:=1) (by simp) _).below ((Below.refl _ _).alloc (Nat.le_refl _) _)⟩)
 case measure=>simp[intOf]
 ):p:=h
theorem B3h{p:Prop}(h:p:=by
 go_wp2_with(first|(go_at_call 55;(with_reducible refine(CE.out _).mono ?_);rintro e we ⟨rfl,hbe⟩;have HE:=hid ((HKm.out.set (k:=4) (by simp) _).below hbe);clear hbe z0 z1 z2 z3 z4 zf;obtain⟨⟨z0,z1,z2,z3,z4⟩,y0,y1,y2,y3,y4⟩:=HE.out.xc.five;obtain⟨⟨c0,c1,c2,c3,c4⟩,f0,f1,f2,f3,f4⟩:=HE.out.r0.five;have m1:=HE.out.n1))
 exact q7z
 ):p:=h
theorem B1I{p:Prop}(h:p:=by
 go_wp2_with fail
 go_roundw
 case rel=>exact .inr (.inr (.inr (⟨rfl,(HD.out.set (k:=3) (by simp) _).below ((Below.refl _ _).alloc (Nat.le_refl _) _)⟩)))
 case measure=>simp[intOf]
 ):p:=h
structure DecW(w:World)(X A:Nat)(cs bs:List Value)(wr:World):Prop where
 r0:Cls wr w.heap.size (rvC rv0)
 xc:Cls wr X cs
 ac:Cls wr A bs
 sc:Cls wr (A+1) [.pointer (some ⟨X,1,none⟩),.pointer (some ⟨X,2,none⟩),.pointer (some ⟨X,3,none⟩)]
 bl:Below w.heap.size w wr
 n1:w.heap.size<X
 n2:X<A
 n3:A+1<wr.heap.size
theorem DecW.below{w wr wk:World}{X A:Nat}{cs bs:List Value}(h:DecW w X A cs bs wr)(hb:Below wr.heap.size wr wk):DecW w X A cs bs wk:=by
 have h1:=h.n1;have h2:=h.n2;have h3:=h.n3;exact⟨h.r0.below (by omega) hb,h.xc.below (by omega) hb,h.ac.below (by omega) hb,h.sc.below h.n3 hb,h.bl.trans (hb.mono (by omega)),h.n1,h.n2,Nat.lt_of_lt_of_le h.n3 hb.size⟩
theorem DecW.set{w wr:World}{X A:Nat}{cs bs:List Value}(h:DecW w X A cs bs wr){k:Nat}(hk:k<cs.length)(v:Value):DecW w X A (cs.set k v) bs (wr.setCell ⟨X,k,none⟩ v):=by
 have h1:=h.n1;have h2:=h.n2;have h3:=h.n3;exact⟨h.r0.other (by omega) v,h.xc.set hk v,h.ac.other (by omega) v,h.sc.other (by omega) v,A6 h.bl (by omega) _ _,h.n1,h.n2,by rw[World.size_setCell];exact h.n3⟩
set_option maxHeartbeats 4000000 in
theorem A5T(x:Int)(x0:0≤x)(x1:x<4294967296)(r:Nat)(w:World)(hd:DecIs w r 39)(n1:(x==115)=false)(n2:(x==1048691)=false)(o:Int)(o0:0≤o)(o1:o≤14)(ho:opR (x%128) (x / 4096%8) (x / 33554432)=o):
  Calls prog 57 #[.map (some r),.int .u32 x] w fun e w'=>e= .returned (if C7 (fdR o x)=x then .tuple #[RvV (fdR o x),.bool true]else .tuple #[RvV rv0,.bool false])∧Below w.heap.size w w':=by
 have CF0:=M8 x x0 x1 r (w.alloc (.cells #[.int .i64 0,.int .i64 0,.int .i64 0,.int .i64 0,.int .i64 0] 75)) (MapIs.below hd ((Below.refl _ _).alloc (Nat.le_refl _) _));rw[ho]at CF0;have ef1:O0 o=o:=by unfold O0;rw[if_neg (by omega)]
 have ef2:fIs o=true:=by
  unfold fIs;have:(o==41)=false:=by simp;omega
  rw[this];rfl
 rw[ef1,ef2]at CF0;have CF:Hid (Calls prog 91 #[.map (some r),.int .u32 x] (w.alloc (.cells #[.int .i64 0,.int .i64 0,.int .i64 0,.int .i64 0,.int .i64 0] 75)) fun e w'=>e= .returned (.tuple #[.int .i64 o,.bool true])∧Below (w.heap.size+1) (w.alloc (.cells #[.int .i64 0,.int .i64 0,.int .i64 0,.int .i64 0,.int .i64 0] 75)) w'):=hid (CF0.mono fun e w' h=>⟨h.1,by have:=h.2;rwa[World.size_alloc]at this⟩);have HC0:Hid (Cls (w.alloc (.cells #[.int .i64 0,.int .i64 0,.int .i64 0,.int .i64 0,.int .i64 0] 75)) w.heap.size (rvC rv0)):=hid Cls.made;have BB:Hid (Below w.heap.size w (w.alloc (.cells #[.int .i64 0,.int .i64 0,.int .i64 0,.int .i64 0,.int .i64 0] 75))):=hid ((Below.refl _ _).alloc (Nat.le_refl _) _);have ef:fmR o=0:=A7A (by omega) (by omega);have C1:Hid (∀w,Calls prog 84 #[.int .i64 o] w fun e w'=>e= .returned (.int .i64 0)∧w=w'):=hid (fun w=>by rw[←ef];exact D9 o w);have C2:Hid (∀w,Calls prog 85 #[.int .i64 0] w fun e w'=>e= .returned (.agg #[.bool true,.bool true,.bool true,.bool false])∧Below w.heap.size w w'):=hid (fun w=>M5 0 (by decide) w);obtain⟨y,hy⟩:∃y,fdR o x=y:=⟨_,rfl⟩
 have C3:=hid (K9 y (by rw[←hy];exact Z7 x0 x1 (by omega)));rw[hy];obtain⟨PV,hPV⟩:∃V,(if C7 y=x then Value.tuple #[RvV y,.bool true]else .tuple #[RvV rv0,.bool false])=V:=⟨_,rfl⟩
 rw[hPV];have HPV:=hid hPV;clear hPV;obtain⟨d,hdd⟩:∃d,x / 128%32=d:=⟨_,rfl⟩
 obtain⟨a,haa⟩:∃d,x / 32768%32=d:=⟨_,rfl⟩
 obtain⟨b,hbb⟩:∃d,x / 1048576%32=d:=⟨_,rfl⟩
 obtain⟨I,hI⟩:∃d,imR 0 x=d:=⟨_,rfl⟩
 have HY:Hid (y=⟨o,d,a,b,0⟩):=hid (by subst hy hI hdd haa hbb;unfold fdR;rw[ef];rfl);have q0:bits .and .u32 (x / 128) 31=d:=by rw[←hdd];exact A9 5 (by omega) (by omega) (by decide) rfl
 have q1:bits .and .u32 (x / 32768) 31=a:=by rw[←haa];exact A9 5 (by omega) (by omega) (by decide) rfl
 have q2:bits .and .u32 (x / 1048576) 31=b:=by rw[←hbb];exact A9 5 (by omega) (by omega) (by decide) rfl
 have d01:0≤d∧d<32:=by omega
 have a01:0≤a∧a<32:=by omega
 have b01:0≤b∧b<32:=by omega
 have w0:IntKind.i64.wrap d=d:=by rw[IntWalk.i64_left];exact IntWalk.wrap64_in _ (by omega)
 have w1:IntKind.i64.wrap a=a:=by rw[IntWalk.i64_left];exact IntWalk.wrap64_in _ (by omega)
 have w2:IntKind.i64.wrap b=b:=by rw[IntWalk.i64_left];exact IntWalk.wrap64_in _ (by omega)
 have CE:Hid (∀w,Calls prog 55 #[.agg #[.int .i64 o,.int .i64 d,.int .i64 a,.int .i64 b,.int .i64 0]] w fun e w'=>e= .returned (.int .u32 (C7 y))∧Below w.heap.size w w'):=hid (fun w=>by
  have h:=C3.out w;rw[show RvV y= .agg #[.int .i64 o,.int .i64 d,.int .i64 a,.int .i64 b,.int .i64 0]by rw[HY.out];rfl]at h;exact h)
 clear C3;have HX:=hid (And.intro x0 x1);clear CF0 ef1 ef2 ho hd hy hdd haa hbb o0 o1 d01 a01 b01 ef hI x0 x1;go_enter func57,ntmps57;go_upto_region 13 with(first|(go_at_call 91;(with_reducible refine CF.out.mono ?_);rintro e wa ⟨rfl,hb2⟩;have hsz:w.heap.size+1≤wa.heap.size:=Nat.le_trans (by simp) hb2.size;have HB2:=hid hb2;clear hb2)|(go_at_call 84;(with_reducible refine(C1.out _).mono ?_);rintro e w1 ⟨rfl,rfl⟩)|(go_at_call 85;(with_reducible refine(C2.out _).mono ?_);rintro e wb ⟨rfl,hb3⟩;have HB3:=hid hb3;clear hb3))
 have HD0:DecW w wa.heap.size wb.heap.size [.int .i64 o,.int .i64 0,.int .i64 0,.int .i64 0,.int .i64 0] [.bool true,.bool true,.bool true,.bool false] ((wb.alloc (.cells #[.bool true,.bool true,.bool true,.bool false] 165)).alloc (.cells #[.pointer (some ⟨wa.heap.size,1,none⟩),.pointer (some ⟨wa.heap.size,2,none⟩),.pointer (some ⟨wa.heap.size,3,none⟩)] 173)):=by
  have hb2:=HB2.out;have hb3:=HB3.out;have ha:Below wa.heap.size wa (wa.alloc (.cells #[.int .i64 o,.int .i64 0,.int .i64 0,.int .i64 0,.int .i64 0] 75)):=(Below.refl _ _).alloc (Nat.le_refl _) _;have hl:=hb3.size;rw[World.size_alloc]at hl;have hw:Below wb.heap.size wb ((wb.alloc (.cells #[.bool true,.bool true,.bool true,.bool false] 165)).alloc (.cells #[.pointer (some ⟨wa.heap.size,1,none⟩),.pointer (some ⟨wa.heap.size,2,none⟩),.pointer (some ⟨wa.heap.size,3,none⟩)] 173)):=((Below.refl _ _).alloc (Nat.le_refl _) _).alloc (by simp) _;refine⟨((HC0.out.below (Nat.lt_succ_self _) hb2).below (by omega) (ha.trans (hb3.mono (by rw[World.size_alloc];omega)))).below (by omega) hw,(Cls.below (Cls.made (cs:=[.int .i64 o,.int .i64 0,.int .i64 0,.int .i64 0,.int .i64 0]) (t:=75)) (by rw[World.size_alloc];omega) hb3).below (by omega) hw,Cls.below (Cls.made (cs:=[.bool true,.bool true,.bool true,.bool false]) (t:=165)) (Nat.lt_succ_self _) ((Below.refl _ _).alloc (by simp) _),?_,?_,by omega,by omega,by simp⟩
  ·have:=Cls.made (w:=wb.alloc (.cells #[.bool true,.bool true,.bool true,.bool false] 165)) (cs:=[.pointer (some ⟨wa.heap.size,1,none⟩),.pointer (some ⟨wa.heap.size,2,none⟩),.pointer (some ⟨wa.heap.size,3,none⟩)]) (t:=173);rwa[World.size_alloc]at this
  ·exact((BB.out.trans (hb2.mono (by omega))).trans (ha.mono (by omega))).trans ((hb3.mono (by rw[World.size_alloc];omega)).trans (hw.mono (by omega)))
 have HD:=hid HD0;clear HD0 HB2 HB3 HC0 BB;generalize((wb.alloc (.cells #[.bool true,.bool true,.bool true,.bool false] 165)).alloc (.cells #[.pointer (some ⟨wa.heap.size,1,none⟩),.pointer (some ⟨wa.heap.size,2,none⟩),.pointer (some ⟨wa.heap.size,3,none⟩)] 173))=WL at*
 generalize wa.heap.size=X at*
 generalize wb.heap.size=A at*
 go_loopw[11,12,40] (fun _ _ i wr=>(i= .int .i64 0∧DecW w X A [.int .i64 o,.int .i64 0,.int .i64 0,.int .i64 0,.int .i64 0] [.bool true,.bool true,.bool true,.bool false] wr)∨(i= .int .i64 1∧DecW w X A [.int .i64 o,.int .i64 d,.int .i64 0,.int .i64 0,.int .i64 0] [.bool true,.bool true,.bool true,.bool false] wr)∨(i= .int .i64 2∧DecW w X A [.int .i64 o,.int .i64 d,.int .i64 a,.int .i64 0,.int .i64 0] [.bool true,.bool true,.bool true,.bool false] wr)∨(i= .int .i64 3∧DecW w X A [.int .i64 o,.int .i64 d,.int .i64 a,.int .i64 b,.int .i64 0] [.bool true,.bool true,.bool true,.bool false] wr)) (fun _ _ i _=>3-(intOf i).toNat)
 case atStart=>exact .inl ⟨rfl,HD.out⟩
 case round=>
  clear HD;rcases hrel with⟨rfl,hD⟩|⟨rfl,hD⟩|⟨rfl,hD⟩|⟨rfl,hD⟩
  ·have HD:=hid hD;have n1':=hD.n1;have n2':=hD.n2;have n3':=hD.n3;have s0:=hD.sc.at 0 _ rfl;have a0:=hD.ac.at 0 _ rfl;have x0:=hD.xc.at 1 _ rfl;have xf:=hD.xc.at' 1 _ rfl;have hx1:¬X=wr.heap.size:=by omega
   have hx2:X<wr.heap.size:=by omega
   clear hD;exact A8b
  ·have HD:=hid hD;have n1':=hD.n1;have n2':=hD.n2;have n3':=hD.n3;have s0:=hD.sc.at 1 _ rfl;have a0:=hD.ac.at 1 _ rfl;have x0:=hD.xc.at 2 _ rfl;have xf:=hD.xc.at' 2 _ rfl;have hx1:¬X=wr.heap.size:=by omega
   have hx2:X<wr.heap.size:=by omega
   clear hD;exact A8c
  ·have HD:=hid hD;have n1':=hD.n1;have n2':=hD.n2;have n3':=hD.n3;have s0:=hD.sc.at 2 _ rfl;have a0:=hD.ac.at 2 _ rfl;have x0:=hD.xc.at 3 _ rfl;have xf:=hD.xc.at' 3 _ rfl;have hx1:¬X=wr.heap.size:=by omega
   have hx2:X<wr.heap.size:=by omega
   clear hD;exact B1I
  ·have HKm:=hid hD;have t1:=hD.n1;have t2:=hD.n2;have t3:=hD.n3;clear hD;have z0:=HKm.out.xc.five.1.1;have z1:=HKm.out.xc.five.1.2.1;have z2:=HKm.out.xc.five.1.2.2.1;have z3:=HKm.out.xc.five.1.2.2.2.1;have z4:=HKm.out.xc.five.1.2.2.2.2;have zf:=HKm.out.xc.five.2.2.2.2.2;cases g:(C7 y==x)
   ·have g1:(C7 y !=x)=true:=by simp[bne,g]
    have HG:=hid g;obtain⟨E,hE⟩:∃E,C7 y=E:=⟨_,rfl⟩
    rw[hE]at CE g1 g;have HEE:=hid hE;clear hE;go_wp2_with(first|(go_at_call 55;(with_reducible refine(CE.out _).mono ?_);rintro e we ⟨rfl,hbe⟩;have HE:=hid (HKm.out.below hbe);clear hbe z0 z1 z2 z3 z4 zf;obtain⟨⟨z0,z1,z2,z3,z4⟩,y0,y1,y2,y3,y4⟩:=HE.out.xc.five;obtain⟨⟨c0,c1,c2,c3,c4⟩,f0,f1,f2,f3,f4⟩:=HE.out.r0.five;have m1:=HE.out.n1))
    exact q7z
   ·have g1:(C7 y !=x)=false:=by simp[bne,g]
    have HG:=hid g;obtain⟨E,hE⟩:∃E,C7 y=E:=⟨_,rfl⟩
    rw[hE]at CE g1 g;have HEE:=hid hE;clear hE;go_wp2_with(first|(go_at_call 55;(with_reducible refine(CE.out _).mono ?_);rintro e we ⟨rfl,hbe⟩;have HE:=hid (HKm.out.below hbe);clear hbe z0 z1 z2 z3 z4 zf;obtain⟨⟨z0,z1,z2,z3,z4⟩,y0,y1,y2,y3,y4⟩:=HE.out.xc.five;obtain⟨⟨c0,c1,c2,c3,c4⟩,f0,f1,f2,f3,f4⟩:=HE.out.r0.five;have m1:=HE.out.n1))
    refine bodyPost_ret (v:=.tuple #[.agg (#[.int .i64 o,.int .i64 d,.int .i64 a,.int .i64 b,.int .i64 0]),.bool true]) (Cls.res2 (cs:=[.int .i64 o,.int .i64 d,.int .i64 a,.int .i64 b,.int .i64 0]) (((((HE.out.r0.set (k:=0) (by simp[rvC]) _).set (k:=1) (by simp[rvC]) _).set (k:=2) (by simp[rvC]) _).set (k:=3) (by simp[rvC]) _).set (k:=4) (by simp[rvC]) _) rfl rfl rfl underlying75 rfl (by kernel_rfl)) rfl ⟨by rw[←HPV.out,if_pos (by have:=HG.out;simpa using this),HY.out];rfl,(A6 (A6 (A6 (A6 (A6 HE.out.bl (Nat.le_refl _) _ _) (Nat.le_refl _) _ _) (Nat.le_refl _) _ _) (Nat.le_refl _) _ _) (Nat.le_refl _) _ _)⟩
set_option maxHeartbeats 4000000 in
theorem A5S(x:Int)(x0:0≤x)(x1:x<4294967296)(r:Nat)(w:World)(hd:DecIs w r 39)(n1:(x==115)=false)(n2:(x==1048691)=false)(o:Int)(o0:15≤o)(o1:o≤20)(ho:opR (x%128) (x / 4096%8) (x / 33554432)=o):
  Calls prog 57 #[.map (some r),.int .u32 x] w fun e w'=>e= .returned (if C7 (fdR o x)=x then .tuple #[RvV (fdR o x),.bool true]else .tuple #[RvV rv0,.bool false])∧Below w.heap.size w w':=by
 have CF0:=M8 x x0 x1 r (w.alloc (.cells #[.int .i64 0,.int .i64 0,.int .i64 0,.int .i64 0,.int .i64 0] 75)) (MapIs.below hd ((Below.refl _ _).alloc (Nat.le_refl _) _));rw[ho]at CF0;have ef1:O0 o=o:=by unfold O0;rw[if_neg (by omega)]
 have ef2:fIs o=true:=by
  unfold fIs;have:(o==41)=false:=by simp;omega
  rw[this];rfl
 rw[ef1,ef2]at CF0;have CF:Hid (Calls prog 91 #[.map (some r),.int .u32 x] (w.alloc (.cells #[.int .i64 0,.int .i64 0,.int .i64 0,.int .i64 0,.int .i64 0] 75)) fun e w'=>e= .returned (.tuple #[.int .i64 o,.bool true])∧Below (w.heap.size+1) (w.alloc (.cells #[.int .i64 0,.int .i64 0,.int .i64 0,.int .i64 0,.int .i64 0] 75)) w'):=hid (CF0.mono fun e w' h=>⟨h.1,by have:=h.2;rwa[World.size_alloc]at this⟩);have HC0:Hid (Cls (w.alloc (.cells #[.int .i64 0,.int .i64 0,.int .i64 0,.int .i64 0,.int .i64 0] 75)) w.heap.size (rvC rv0)):=hid Cls.made;have BB:Hid (Below w.heap.size w (w.alloc (.cells #[.int .i64 0,.int .i64 0,.int .i64 0,.int .i64 0,.int .i64 0] 75))):=hid ((Below.refl _ _).alloc (Nat.le_refl _) _);have ef:fmR o=1:=A6z (by omega) (by omega);have C1:Hid (∀w,Calls prog 84 #[.int .i64 o] w fun e w'=>e= .returned (.int .i64 1)∧w=w'):=hid (fun w=>by rw[←ef];exact D9 o w);have C2:Hid (∀w,Calls prog 85 #[.int .i64 1] w fun e w'=>e= .returned (.agg #[.bool true,.bool true,.bool false,.bool true])∧Below w.heap.size w w'):=hid (fun w=>M5 1 (by decide) w);obtain⟨y,hy⟩:∃y,fdR o x=y:=⟨_,rfl⟩
 have C3:=hid (K9 y (by rw[←hy];exact Z7 x0 x1 (by omega)));rw[hy];obtain⟨PV,hPV⟩:∃V,(if C7 y=x then Value.tuple #[RvV y,.bool true]else .tuple #[RvV rv0,.bool false])=V:=⟨_,rfl⟩
 rw[hPV];have HPV:=hid hPV;clear hPV;obtain⟨d,hdd⟩:∃d,x / 128%32=d:=⟨_,rfl⟩
 obtain⟨a,haa⟩:∃d,x / 32768%32=d:=⟨_,rfl⟩
 obtain⟨b,hbb⟩:∃d,x / 1048576%32=d:=⟨_,rfl⟩
 obtain⟨I,hI⟩:∃d,imR 1 x=d:=⟨_,rfl⟩
 have HY:Hid (y=⟨o,d,a,0,I⟩):=hid (by subst hy hI hdd haa hbb;unfold fdR;rw[ef];rfl);have q0:bits .and .u32 (x / 128) 31=d:=by rw[←hdd];exact A9 5 (by omega) (by omega) (by decide) rfl
 have q1:bits .and .u32 (x / 32768) 31=a:=by rw[←haa];exact A9 5 (by omega) (by omega) (by decide) rfl
 have q2:bits .and .u32 (x / 1048576) 31=b:=by rw[←hbb];exact A9 5 (by omega) (by omega) (by decide) rfl
 have d01:0≤d∧d<32:=by omega
 have a01:0≤a∧a<32:=by omega
 have b01:0≤b∧b<32:=by omega
 have w0:IntKind.i64.wrap d=d:=by rw[IntWalk.i64_left];exact IntWalk.wrap64_in _ (by omega)
 have w1:IntKind.i64.wrap a=a:=by rw[IntWalk.i64_left];exact IntWalk.wrap64_in _ (by omega)
 have w2:IntKind.i64.wrap b=b:=by rw[IntWalk.i64_left];exact IntWalk.wrap64_in _ (by omega)
 have hN:x / 1048576=b+x / 33554432*32:=by omega
 have CS:Hid (∀w,Calls prog 92 #[.int .u32 (x / 1048576),.int .i64 12] w fun e w'=>e= .returned (.int .i64 I)∧w=w'):=hid (fun w=>by
  have h:=X6 (x / 1048576) (by omega) (by omega) w;rw[show sgR (x / 1048576) 2048=I by rw[←hI,hN,←hbb];rfl]at h;exact h)
 clear hN;have CE:Hid (∀w,Calls prog 55 #[.agg #[.int .i64 o,.int .i64 d,.int .i64 a,.int .i64 0,.int .i64 I]] w fun e w'=>e= .returned (.int .u32 (C7 y))∧Below w.heap.size w w'):=hid (fun w=>by
  have h:=C3.out w;rw[show RvV y= .agg #[.int .i64 o,.int .i64 d,.int .i64 a,.int .i64 0,.int .i64 I]by rw[HY.out];rfl]at h;exact h)
 clear C3;have HX:=hid (And.intro x0 x1);clear CF0 ef1 ef2 ho hd hy hdd haa hbb o0 o1 d01 a01 b01 ef hI x0 x1;exact q0z
set_option maxHeartbeats 4000000 in
theorem A5R(x:Int)(x0:0≤x)(x1:x<4294967296)(r:Nat)(w:World)(hd:DecIs w r 39)(n1:(x==115)=false)(n2:(x==1048691)=false)(o:Int)(o0:21≤o)(o1:o≤23)(ho:opR (x%128) (x / 4096%8) (x / 33554432)=o):
  Calls prog 57 #[.map (some r),.int .u32 x] w fun e w'=>e= .returned (if C7 (fdR o x)=x then .tuple #[RvV (fdR o x),.bool true]else .tuple #[RvV rv0,.bool false])∧Below w.heap.size w w':=by
 have CF0:=M8 x x0 x1 r (w.alloc (.cells #[.int .i64 0,.int .i64 0,.int .i64 0,.int .i64 0,.int .i64 0] 75)) (MapIs.below hd ((Below.refl _ _).alloc (Nat.le_refl _) _));rw[ho]at CF0;have ef1:O0 o=o:=by unfold O0;rw[if_neg (by omega)]
 have ef2:fIs o=true:=by
  unfold fIs;have:(o==41)=false:=by simp;omega
  rw[this];rfl
 rw[ef1,ef2]at CF0;have CF:Hid (Calls prog 91 #[.map (some r),.int .u32 x] (w.alloc (.cells #[.int .i64 0,.int .i64 0,.int .i64 0,.int .i64 0,.int .i64 0] 75)) fun e w'=>e= .returned (.tuple #[.int .i64 o,.bool true])∧Below (w.heap.size+1) (w.alloc (.cells #[.int .i64 0,.int .i64 0,.int .i64 0,.int .i64 0,.int .i64 0] 75)) w'):=hid (CF0.mono fun e w' h=>⟨h.1,by have:=h.2;rwa[World.size_alloc]at this⟩);have HC0:Hid (Cls (w.alloc (.cells #[.int .i64 0,.int .i64 0,.int .i64 0,.int .i64 0,.int .i64 0] 75)) w.heap.size (rvC rv0)):=hid Cls.made;have BB:Hid (Below w.heap.size w (w.alloc (.cells #[.int .i64 0,.int .i64 0,.int .i64 0,.int .i64 0,.int .i64 0] 75))):=hid ((Below.refl _ _).alloc (Nat.le_refl _) _);have ef:fmR o=2:=A6y (by omega) (by omega);have C1:Hid (∀w,Calls prog 84 #[.int .i64 o] w fun e w'=>e= .returned (.int .i64 2)∧w=w'):=hid (fun w=>by rw[←ef];exact D9 o w);have C2:Hid (∀w,Calls prog 85 #[.int .i64 2] w fun e w'=>e= .returned (.agg #[.bool true,.bool true,.bool false,.bool true])∧Below w.heap.size w w'):=hid (fun w=>M5 2 (by decide) w);obtain⟨y,hy⟩:∃y,fdR o x=y:=⟨_,rfl⟩
 have C3:=hid (K9 y (by rw[←hy];exact Z7 x0 x1 (by omega)));rw[hy];obtain⟨PV,hPV⟩:∃V,(if C7 y=x then Value.tuple #[RvV y,.bool true]else .tuple #[RvV rv0,.bool false])=V:=⟨_,rfl⟩
 rw[hPV];have HPV:=hid hPV;clear hPV;obtain⟨d,hdd⟩:∃d,x / 128%32=d:=⟨_,rfl⟩
 obtain⟨a,haa⟩:∃d,x / 32768%32=d:=⟨_,rfl⟩
 obtain⟨b,hbb⟩:∃d,x / 1048576%32=d:=⟨_,rfl⟩
 obtain⟨I,hI⟩:∃d,imR 2 x=d:=⟨_,rfl⟩
 have HY:Hid (y=⟨o,d,a,0,b⟩):=hid (by subst hy hI hdd haa hbb;unfold fdR;rw[ef];rfl);have q0:bits .and .u32 (x / 128) 31=d:=by rw[←hdd];exact A9 5 (by omega) (by omega) (by decide) rfl
 have q1:bits .and .u32 (x / 32768) 31=a:=by rw[←haa];exact A9 5 (by omega) (by omega) (by decide) rfl
 have q2:bits .and .u32 (x / 1048576) 31=b:=by rw[←hbb];exact A9 5 (by omega) (by omega) (by decide) rfl
 have d01:0≤d∧d<32:=by omega
 have a01:0≤a∧a<32:=by omega
 have b01:0≤b∧b<32:=by omega
 have w0:IntKind.i64.wrap d=d:=by rw[IntWalk.i64_left];exact IntWalk.wrap64_in _ (by omega)
 have w1:IntKind.i64.wrap a=a:=by rw[IntWalk.i64_left];exact IntWalk.wrap64_in _ (by omega)
 have w2:IntKind.i64.wrap b=b:=by rw[IntWalk.i64_left];exact IntWalk.wrap64_in _ (by omega)
 have CE:Hid (∀w,Calls prog 55 #[.agg #[.int .i64 o,.int .i64 d,.int .i64 a,.int .i64 0,.int .i64 b]] w fun e w'=>e= .returned (.int .u32 (C7 y))∧Below w.heap.size w w'):=hid (fun w=>by
  have h:=C3.out w;rw[show RvV y= .agg #[.int .i64 o,.int .i64 d,.int .i64 a,.int .i64 0,.int .i64 b]by rw[HY.out];rfl]at h;exact h)
 clear C3;have HX:=hid (And.intro x0 x1);clear CF0 ef1 ef2 ho hd hy hdd haa hbb o0 o1 d01 a01 b01 ef hI x0 x1;go_enter func57,ntmps57;go_upto_region 13 with(first|(go_at_call 91;(with_reducible refine CF.out.mono ?_);rintro e wa ⟨rfl,hb2⟩;have hsz:w.heap.size+1≤wa.heap.size:=Nat.le_trans (by simp) hb2.size;have HB2:=hid hb2;clear hb2)|(go_at_call 84;(with_reducible refine(C1.out _).mono ?_);rintro e w1 ⟨rfl,rfl⟩)|(go_at_call 85;(with_reducible refine(C2.out _).mono ?_);rintro e wb ⟨rfl,hb3⟩;have HB3:=hid hb3;clear hb3))
 have HD0:DecW w wa.heap.size wb.heap.size [.int .i64 o,.int .i64 0,.int .i64 0,.int .i64 0,.int .i64 0] [.bool true,.bool true,.bool false,.bool true] ((wb.alloc (.cells #[.bool true,.bool true,.bool false,.bool true] 165)).alloc (.cells #[.pointer (some ⟨wa.heap.size,1,none⟩),.pointer (some ⟨wa.heap.size,2,none⟩),.pointer (some ⟨wa.heap.size,3,none⟩)] 173)):=by
  have hb2:=HB2.out;have hb3:=HB3.out;have ha:Below wa.heap.size wa (wa.alloc (.cells #[.int .i64 o,.int .i64 0,.int .i64 0,.int .i64 0,.int .i64 0] 75)):=(Below.refl _ _).alloc (Nat.le_refl _) _;have hl:=hb3.size;rw[World.size_alloc]at hl;have hw:Below wb.heap.size wb ((wb.alloc (.cells #[.bool true,.bool true,.bool false,.bool true] 165)).alloc (.cells #[.pointer (some ⟨wa.heap.size,1,none⟩),.pointer (some ⟨wa.heap.size,2,none⟩),.pointer (some ⟨wa.heap.size,3,none⟩)] 173)):=((Below.refl _ _).alloc (Nat.le_refl _) _).alloc (by simp) _;refine⟨((HC0.out.below (Nat.lt_succ_self _) hb2).below (by omega) (ha.trans (hb3.mono (by rw[World.size_alloc];omega)))).below (by omega) hw,(Cls.below (Cls.made (cs:=[.int .i64 o,.int .i64 0,.int .i64 0,.int .i64 0,.int .i64 0]) (t:=75)) (by rw[World.size_alloc];omega) hb3).below (by omega) hw,Cls.below (Cls.made (cs:=[.bool true,.bool true,.bool false,.bool true]) (t:=165)) (Nat.lt_succ_self _) ((Below.refl _ _).alloc (by simp) _),?_,?_,by omega,by omega,by simp⟩
  ·have:=Cls.made (w:=wb.alloc (.cells #[.bool true,.bool true,.bool false,.bool true] 165)) (cs:=[.pointer (some ⟨wa.heap.size,1,none⟩),.pointer (some ⟨wa.heap.size,2,none⟩),.pointer (some ⟨wa.heap.size,3,none⟩)]) (t:=173);rwa[World.size_alloc]at this
  ·exact((BB.out.trans (hb2.mono (by omega))).trans (ha.mono (by omega))).trans ((hb3.mono (by rw[World.size_alloc];omega)).trans (hw.mono (by omega)))
 have HD:=hid HD0;clear HD0 HB2 HB3 HC0 BB;generalize((wb.alloc (.cells #[.bool true,.bool true,.bool false,.bool true] 165)).alloc (.cells #[.pointer (some ⟨wa.heap.size,1,none⟩),.pointer (some ⟨wa.heap.size,2,none⟩),.pointer (some ⟨wa.heap.size,3,none⟩)] 173))=WL at*
 generalize wa.heap.size=X at*
 generalize wb.heap.size=A at*
 go_loopw[11,12,40] (fun _ _ i wr=>(i= .int .i64 0∧DecW w X A [.int .i64 o,.int .i64 0,.int .i64 0,.int .i64 0,.int .i64 0] [.bool true,.bool true,.bool false,.bool true] wr)∨(i= .int .i64 1∧DecW w X A [.int .i64 o,.int .i64 d,.int .i64 0,.int .i64 0,.int .i64 0] [.bool true,.bool true,.bool false,.bool true] wr)∨(i= .int .i64 2∧DecW w X A [.int .i64 o,.int .i64 d,.int .i64 a,.int .i64 0,.int .i64 0] [.bool true,.bool true,.bool false,.bool true] wr)∨(i= .int .i64 3∧DecW w X A [.int .i64 o,.int .i64 d,.int .i64 a,.int .i64 0,.int .i64 0] [.bool true,.bool true,.bool false,.bool true] wr)) (fun _ _ i _=>3-(intOf i).toNat)
 case atStart=>exact .inl ⟨rfl,HD.out⟩
 case round=>
  clear HD;rcases hrel with⟨rfl,hD⟩|⟨rfl,hD⟩|⟨rfl,hD⟩|⟨rfl,hD⟩
  ·have HD:=hid hD;have n1':=hD.n1;have n2':=hD.n2;have n3':=hD.n3;have s0:=hD.sc.at 0 _ rfl;have a0:=hD.ac.at 0 _ rfl;have x0:=hD.xc.at 1 _ rfl;have xf:=hD.xc.at' 1 _ rfl;have hx1:¬X=wr.heap.size:=by omega
   have hx2:X<wr.heap.size:=by omega
   clear hD;exact A8b
  ·have HD:=hid hD;have n1':=hD.n1;have n2':=hD.n2;have n3':=hD.n3;have s0:=hD.sc.at 1 _ rfl;have a0:=hD.ac.at 1 _ rfl;have x0:=hD.xc.at 2 _ rfl;have xf:=hD.xc.at' 2 _ rfl;have hx1:¬X=wr.heap.size:=by omega
   have hx2:X<wr.heap.size:=by omega
   clear hD;exact A8c
  ·have HD:=hid hD;have n1':=hD.n1;have n2':=hD.n2;have n3':=hD.n3;have s0:=hD.sc.at 2 _ rfl;have a0:=hD.ac.at 2 _ rfl;have x0:=hD.xc.at 3 _ rfl;have xf:=hD.xc.at' 3 _ rfl;have hx1:¬X=wr.heap.size:=by omega
   have hx2:X<wr.heap.size:=by omega
   clear hD;go_wp2_with fail
   go_roundw
   case rel=>exact .inr (.inr (.inr (⟨rfl,HD.out⟩)))
   case measure=>simp[intOf]
  ·have HKm:=hid hD;have t1:=hD.n1;have t2:=hD.n2;have t3:=hD.n3;clear hD;have z0:=HKm.out.xc.five.1.1;have z1:=HKm.out.xc.five.1.2.1;have z2:=HKm.out.xc.five.1.2.2.1;have z3:=HKm.out.xc.five.1.2.2.2.1;have z4:=HKm.out.xc.five.1.2.2.2.2;have zf:=HKm.out.xc.five.2.2.2.2.2;cases g:(C7 y==x)
   ·have g1:(C7 y !=x)=true:=by simp[bne,g]
    have HG:=hid g;obtain⟨E,hE⟩:∃E,C7 y=E:=⟨_,rfl⟩
    rw[hE]at CE g1 g;have HEE:=hid hE;clear hE;exact B3h
   ·have g1:(C7 y !=x)=false:=by simp[bne,g]
    have HG:=hid g;obtain⟨E,hE⟩:∃E,C7 y=E:=⟨_,rfl⟩
    rw[hE]at CE g1 g;have HEE:=hid hE;clear hE;go_wp2_with(first|(go_at_call 55;(with_reducible refine(CE.out _).mono ?_);rintro e we ⟨rfl,hbe⟩;have HE:=hid ((HKm.out.set (k:=4) (by simp) _).below hbe);clear hbe z0 z1 z2 z3 z4 zf;obtain⟨⟨z0,z1,z2,z3,z4⟩,y0,y1,y2,y3,y4⟩:=HE.out.xc.five;obtain⟨⟨c0,c1,c2,c3,c4⟩,f0,f1,f2,f3,f4⟩:=HE.out.r0.five;have m1:=HE.out.n1))
    refine bodyPost_ret (v:=.tuple #[.agg (#[.int .i64 o,.int .i64 d,.int .i64 a,.int .i64 0,.int .i64 b]),.bool true]) (Cls.res2 (cs:=[.int .i64 o,.int .i64 d,.int .i64 a,.int .i64 0,.int .i64 b]) (((((HE.out.r0.set (k:=0) (by simp[rvC]) _).set (k:=1) (by simp[rvC]) _).set (k:=2) (by simp[rvC]) _).set (k:=3) (by simp[rvC]) _).set (k:=4) (by simp[rvC]) _) rfl rfl rfl underlying75 rfl (by kernel_rfl)) rfl ⟨by rw[←HPV.out,if_pos (by have:=HG.out;simpa using this),HY.out];rfl,(A6 (A6 (A6 (A6 (A6 HE.out.bl (Nat.le_refl _) _ _) (Nat.le_refl _) _ _) (Nat.le_refl _) _ _) (Nat.le_refl _) _ _) (Nat.le_refl _) _ _)⟩
set_option maxHeartbeats 4000000 in
theorem A5Q(x:Int)(x0:0≤x)(x1:x<4294967296)(r:Nat)(w:World)(hd:DecIs w r 39)(n1:(x==115)=false)(n2:(x==1048691)=false)(o:Int)(o0:24≤o)(o1:o≤24)(ho:opR (x%128) (x / 4096%8) (x / 33554432)=o):
  Calls prog 57 #[.map (some r),.int .u32 x] w fun e w'=>e= .returned (if C7 (fdR o x)=x then .tuple #[RvV (fdR o x),.bool true]else .tuple #[RvV rv0,.bool false])∧Below w.heap.size w w':=by
 have CF0:=M8 x x0 x1 r (w.alloc (.cells #[.int .i64 0,.int .i64 0,.int .i64 0,.int .i64 0,.int .i64 0] 75)) (MapIs.below hd ((Below.refl _ _).alloc (Nat.le_refl _) _));rw[ho]at CF0;have ef1:O0 o=o:=by unfold O0;rw[if_neg (by omega)]
 have ef2:fIs o=true:=by
  unfold fIs;have:(o==41)=false:=by simp;omega
  rw[this];rfl
 rw[ef1,ef2]at CF0;have CF:Hid (Calls prog 91 #[.map (some r),.int .u32 x] (w.alloc (.cells #[.int .i64 0,.int .i64 0,.int .i64 0,.int .i64 0,.int .i64 0] 75)) fun e w'=>e= .returned (.tuple #[.int .i64 o,.bool true])∧Below (w.heap.size+1) (w.alloc (.cells #[.int .i64 0,.int .i64 0,.int .i64 0,.int .i64 0,.int .i64 0] 75)) w'):=hid (CF0.mono fun e w' h=>⟨h.1,by have:=h.2;rwa[World.size_alloc]at this⟩);have HC0:Hid (Cls (w.alloc (.cells #[.int .i64 0,.int .i64 0,.int .i64 0,.int .i64 0,.int .i64 0] 75)) w.heap.size (rvC rv0)):=hid Cls.made;have BB:Hid (Below w.heap.size w (w.alloc (.cells #[.int .i64 0,.int .i64 0,.int .i64 0,.int .i64 0,.int .i64 0] 75))):=hid ((Below.refl _ _).alloc (Nat.le_refl _) _);have ef:fmR o=3:=A6x (by omega) (by omega);have C1:Hid (∀w,Calls prog 84 #[.int .i64 o] w fun e w'=>e= .returned (.int .i64 3)∧w=w'):=hid (fun w=>by rw[←ef];exact D9 o w);have C2:Hid (∀w,Calls prog 85 #[.int .i64 3] w fun e w'=>e= .returned (.agg #[.bool true,.bool false,.bool false,.bool true])∧Below w.heap.size w w'):=hid (fun w=>M5 3 (by decide) w);obtain⟨y,hy⟩:∃y,fdR o x=y:=⟨_,rfl⟩
 have C3:=hid (K9 y (by rw[←hy];exact Z7 x0 x1 (by omega)));rw[hy];obtain⟨PV,hPV⟩:∃V,(if C7 y=x then Value.tuple #[RvV y,.bool true]else .tuple #[RvV rv0,.bool false])=V:=⟨_,rfl⟩
 rw[hPV];have HPV:=hid hPV;clear hPV;obtain⟨d,hdd⟩:∃d,x / 128%32=d:=⟨_,rfl⟩
 obtain⟨a,haa⟩:∃d,x / 32768%32=d:=⟨_,rfl⟩
 obtain⟨b,hbb⟩:∃d,x / 1048576%32=d:=⟨_,rfl⟩
 obtain⟨I,hI⟩:∃d,imR 3 x=d:=⟨_,rfl⟩
 obtain⟨u,hu⟩:∃u,x / 4096=u:=⟨_,rfl⟩
 have HY:Hid (y=⟨o,d,0,0,u⟩):=hid (by subst hy hI hdd haa hbb hu;unfold fdR;rw[ef];rfl);have q0:bits .and .u32 (x / 128) 31=d:=by rw[←hdd];exact A9 5 (by omega) (by omega) (by decide) rfl
 have q1:bits .and .u32 (x / 32768) 31=a:=by rw[←haa];exact A9 5 (by omega) (by omega) (by decide) rfl
 have q2:bits .and .u32 (x / 1048576) 31=b:=by rw[←hbb];exact A9 5 (by omega) (by omega) (by decide) rfl
 have d01:0≤d∧d<32:=by omega
 have a01:0≤a∧a<32:=by omega
 have b01:0≤b∧b<32:=by omega
 have w0:IntKind.i64.wrap d=d:=by rw[IntWalk.i64_left];exact IntWalk.wrap64_in _ (by omega)
 have w1:IntKind.i64.wrap a=a:=by rw[IntWalk.i64_left];exact IntWalk.wrap64_in _ (by omega)
 have w2:IntKind.i64.wrap b=b:=by rw[IntWalk.i64_left];exact IntWalk.wrap64_in _ (by omega)
 have u01:0≤u∧u<1048576:=by omega
 have w3:IntKind.i64.wrap u=u:=by rw[IntWalk.i64_left];exact IntWalk.wrap64_in _ (by omega)
 clear u01;have CE:Hid (∀w,Calls prog 55 #[.agg #[.int .i64 o,.int .i64 d,.int .i64 0,.int .i64 0,.int .i64 u]] w fun e w'=>e= .returned (.int .u32 (C7 y))∧Below w.heap.size w w'):=hid (fun w=>by
  have h:=C3.out w;rw[show RvV y= .agg #[.int .i64 o,.int .i64 d,.int .i64 0,.int .i64 0,.int .i64 u]by rw[HY.out];rfl]at h;exact h)
 clear C3;have HX:=hid (And.intro x0 x1);clear CF0 ef1 ef2 ho hd hy hdd haa hbb o0 o1 d01 a01 b01 ef hI x0 x1;go_enter func57,ntmps57;go_upto_region 13 with(first|(go_at_call 91;(with_reducible refine CF.out.mono ?_);rintro e wa ⟨rfl,hb2⟩;have hsz:w.heap.size+1≤wa.heap.size:=Nat.le_trans (by simp) hb2.size;have HB2:=hid hb2;clear hb2)|(go_at_call 84;(with_reducible refine(C1.out _).mono ?_);rintro e w1 ⟨rfl,rfl⟩)|(go_at_call 85;(with_reducible refine(C2.out _).mono ?_);rintro e wb ⟨rfl,hb3⟩;have HB3:=hid hb3;clear hb3))
 have HD0:DecW w wa.heap.size wb.heap.size [.int .i64 o,.int .i64 0,.int .i64 0,.int .i64 0,.int .i64 0] [.bool true,.bool false,.bool false,.bool true] ((wb.alloc (.cells #[.bool true,.bool false,.bool false,.bool true] 165)).alloc (.cells #[.pointer (some ⟨wa.heap.size,1,none⟩),.pointer (some ⟨wa.heap.size,2,none⟩),.pointer (some ⟨wa.heap.size,3,none⟩)] 173)):=by
  have hb2:=HB2.out;have hb3:=HB3.out;have ha:Below wa.heap.size wa (wa.alloc (.cells #[.int .i64 o,.int .i64 0,.int .i64 0,.int .i64 0,.int .i64 0] 75)):=(Below.refl _ _).alloc (Nat.le_refl _) _;have hl:=hb3.size;rw[World.size_alloc]at hl;have hw:Below wb.heap.size wb ((wb.alloc (.cells #[.bool true,.bool false,.bool false,.bool true] 165)).alloc (.cells #[.pointer (some ⟨wa.heap.size,1,none⟩),.pointer (some ⟨wa.heap.size,2,none⟩),.pointer (some ⟨wa.heap.size,3,none⟩)] 173)):=((Below.refl _ _).alloc (Nat.le_refl _) _).alloc (by simp) _;refine⟨((HC0.out.below (Nat.lt_succ_self _) hb2).below (by omega) (ha.trans (hb3.mono (by rw[World.size_alloc];omega)))).below (by omega) hw,(Cls.below (Cls.made (cs:=[.int .i64 o,.int .i64 0,.int .i64 0,.int .i64 0,.int .i64 0]) (t:=75)) (by rw[World.size_alloc];omega) hb3).below (by omega) hw,Cls.below (Cls.made (cs:=[.bool true,.bool false,.bool false,.bool true]) (t:=165)) (Nat.lt_succ_self _) ((Below.refl _ _).alloc (by simp) _),?_,?_,by omega,by omega,by simp⟩
  ·have:=Cls.made (w:=wb.alloc (.cells #[.bool true,.bool false,.bool false,.bool true] 165)) (cs:=[.pointer (some ⟨wa.heap.size,1,none⟩),.pointer (some ⟨wa.heap.size,2,none⟩),.pointer (some ⟨wa.heap.size,3,none⟩)]) (t:=173);rwa[World.size_alloc]at this
  ·exact((BB.out.trans (hb2.mono (by omega))).trans (ha.mono (by omega))).trans ((hb3.mono (by rw[World.size_alloc];omega)).trans (hw.mono (by omega)))
 have HD:=hid HD0;clear HD0 HB2 HB3 HC0 BB;generalize((wb.alloc (.cells #[.bool true,.bool false,.bool false,.bool true] 165)).alloc (.cells #[.pointer (some ⟨wa.heap.size,1,none⟩),.pointer (some ⟨wa.heap.size,2,none⟩),.pointer (some ⟨wa.heap.size,3,none⟩)] 173))=WL at*
 generalize wa.heap.size=X at*
 generalize wb.heap.size=A at*
 go_loopw[11,12,40] (fun _ _ i wr=>(i= .int .i64 0∧DecW w X A [.int .i64 o,.int .i64 0,.int .i64 0,.int .i64 0,.int .i64 0] [.bool true,.bool false,.bool false,.bool true] wr)∨(i= .int .i64 1∧DecW w X A [.int .i64 o,.int .i64 d,.int .i64 0,.int .i64 0,.int .i64 0] [.bool true,.bool false,.bool false,.bool true] wr)∨(i= .int .i64 2∧DecW w X A [.int .i64 o,.int .i64 d,.int .i64 0,.int .i64 0,.int .i64 0] [.bool true,.bool false,.bool false,.bool true] wr)∨(i= .int .i64 3∧DecW w X A [.int .i64 o,.int .i64 d,.int .i64 0,.int .i64 0,.int .i64 0] [.bool true,.bool false,.bool false,.bool true] wr)) (fun _ _ i _=>3-(intOf i).toNat)
 case atStart=>exact .inl ⟨rfl,HD.out⟩
 case round=>
  clear HD;rcases hrel with⟨rfl,hD⟩|⟨rfl,hD⟩|⟨rfl,hD⟩|⟨rfl,hD⟩
  ·have HD:=hid hD;have n1':=hD.n1;have n2':=hD.n2;have n3':=hD.n3;have s0:=hD.sc.at 0 _ rfl;have a0:=hD.ac.at 0 _ rfl;have x0:=hD.xc.at 1 _ rfl;have xf:=hD.xc.at' 1 _ rfl;have hx1:¬X=wr.heap.size:=by omega
   have hx2:X<wr.heap.size:=by omega
   clear hD;exact A8b
  ·have HD:=hid hD;have n1':=hD.n1;have n2':=hD.n2;have n3':=hD.n3;have s0:=hD.sc.at 1 _ rfl;have a0:=hD.ac.at 1 _ rfl;have x0:=hD.xc.at 2 _ rfl;have xf:=hD.xc.at' 2 _ rfl;have hx1:¬X=wr.heap.size:=by omega
   have hx2:X<wr.heap.size:=by omega
   clear hD;go_wp2_with fail
   go_roundw
   case rel=>exact .inr (.inr (.inl ⟨rfl,HD.out⟩))
   case measure=>simp[intOf]
  ·have HD:=hid hD;have n1':=hD.n1;have n2':=hD.n2;have n3':=hD.n3;have s0:=hD.sc.at 2 _ rfl;have a0:=hD.ac.at 2 _ rfl;have x0:=hD.xc.at 3 _ rfl;have xf:=hD.xc.at' 3 _ rfl;have hx1:¬X=wr.heap.size:=by omega
   have hx2:X<wr.heap.size:=by omega
   clear hD;go_wp2_with fail
   go_roundw
   case rel=>exact .inr (.inr (.inr (⟨rfl,HD.out⟩)))
   case measure=>simp[intOf]
  ·have HKm:=hid hD;have t1:=hD.n1;have t2:=hD.n2;have t3:=hD.n3;clear hD;have z0:=HKm.out.xc.five.1.1;have z1:=HKm.out.xc.five.1.2.1;have z2:=HKm.out.xc.five.1.2.2.1;have z3:=HKm.out.xc.five.1.2.2.2.1;have z4:=HKm.out.xc.five.1.2.2.2.2;have zf:=HKm.out.xc.five.2.2.2.2.2;cases g:(C7 y==x)
   ·have g1:(C7 y !=x)=true:=by simp[bne,g]
    have HG:=hid g;obtain⟨E,hE⟩:∃E,C7 y=E:=⟨_,rfl⟩
    rw[hE]at CE g1 g;have HEE:=hid hE;clear hE;exact B3h
   ·have g1:(C7 y !=x)=false:=by simp[bne,g]
    have HG:=hid g;obtain⟨E,hE⟩:∃E,C7 y=E:=⟨_,rfl⟩
    rw[hE]at CE g1 g;have HEE:=hid hE;clear hE;go_wp2_with(first|(go_at_call 55;(with_reducible refine(CE.out _).mono ?_);rintro e we ⟨rfl,hbe⟩;have HE:=hid ((HKm.out.set (k:=4) (by simp) _).below hbe);clear hbe z0 z1 z2 z3 z4 zf;obtain⟨⟨z0,z1,z2,z3,z4⟩,y0,y1,y2,y3,y4⟩:=HE.out.xc.five;obtain⟨⟨c0,c1,c2,c3,c4⟩,f0,f1,f2,f3,f4⟩:=HE.out.r0.five;have m1:=HE.out.n1))
    refine bodyPost_ret (v:=.tuple #[.agg (#[.int .i64 o,.int .i64 d,.int .i64 0,.int .i64 0,.int .i64 u]),.bool true]) (Cls.res2 (cs:=[.int .i64 o,.int .i64 d,.int .i64 0,.int .i64 0,.int .i64 u]) (((((HE.out.r0.set (k:=0) (by simp[rvC]) _).set (k:=1) (by simp[rvC]) _).set (k:=2) (by simp[rvC]) _).set (k:=3) (by simp[rvC]) _).set (k:=4) (by simp[rvC]) _) rfl rfl rfl underlying75 rfl (by kernel_rfl)) rfl ⟨by rw[←HPV.out,if_pos (by have:=HG.out;simpa using this),HY.out];rfl,(A6 (A6 (A6 (A6 (A6 HE.out.bl (Nat.le_refl _) _ _) (Nat.le_refl _) _ _) (Nat.le_refl _) _ _) (Nat.le_refl _) _ _) (Nat.le_refl _) _ _)⟩
set_option maxHeartbeats 4000000 in
theorem A5P(x:Int)(x0:0≤x)(x1:x<4294967296)(r:Nat)(w:World)(hd:DecIs w r 39)(n1:(x==115)=false)(n2:(x==1048691)=false)(o:Int)(o0:25≤o)(o1:o≤27)(ho:opR (x%128) (x / 4096%8) (x / 33554432)=o):
  Calls prog 57 #[.map (some r),.int .u32 x] w fun e w'=>e= .returned (if C7 (fdR o x)=x then .tuple #[RvV (fdR o x),.bool true]else .tuple #[RvV rv0,.bool false])∧Below w.heap.size w w':=by
 have CF0:=M8 x x0 x1 r (w.alloc (.cells #[.int .i64 0,.int .i64 0,.int .i64 0,.int .i64 0,.int .i64 0] 75)) (MapIs.below hd ((Below.refl _ _).alloc (Nat.le_refl _) _));rw[ho]at CF0;have ef1:O0 o=o:=by unfold O0;rw[if_neg (by omega)]
 have ef2:fIs o=true:=by
  unfold fIs;have:(o==41)=false:=by simp;omega
  rw[this];rfl
 rw[ef1,ef2]at CF0;have CF:Hid (Calls prog 91 #[.map (some r),.int .u32 x] (w.alloc (.cells #[.int .i64 0,.int .i64 0,.int .i64 0,.int .i64 0,.int .i64 0] 75)) fun e w'=>e= .returned (.tuple #[.int .i64 o,.bool true])∧Below (w.heap.size+1) (w.alloc (.cells #[.int .i64 0,.int .i64 0,.int .i64 0,.int .i64 0,.int .i64 0] 75)) w'):=hid (CF0.mono fun e w' h=>⟨h.1,by have:=h.2;rwa[World.size_alloc]at this⟩);have HC0:Hid (Cls (w.alloc (.cells #[.int .i64 0,.int .i64 0,.int .i64 0,.int .i64 0,.int .i64 0] 75)) w.heap.size (rvC rv0)):=hid Cls.made;have BB:Hid (Below w.heap.size w (w.alloc (.cells #[.int .i64 0,.int .i64 0,.int .i64 0,.int .i64 0,.int .i64 0] 75))):=hid ((Below.refl _ _).alloc (Nat.le_refl _) _);have ef:fmR o=4:=A6w (by omega) (by omega);have C1:Hid (∀w,Calls prog 84 #[.int .i64 o] w fun e w'=>e= .returned (.int .i64 4)∧w=w'):=hid (fun w=>by rw[←ef];exact D9 o w);have C2:Hid (∀w,Calls prog 85 #[.int .i64 4] w fun e w'=>e= .returned (.agg #[.bool true,.bool true,.bool false,.bool true])∧Below w.heap.size w w'):=hid (fun w=>M5 4 (by decide) w);obtain⟨y,hy⟩:∃y,fdR o x=y:=⟨_,rfl⟩
 have C3:=hid (K9 y (by rw[←hy];exact Z7 x0 x1 (by omega)));rw[hy];obtain⟨PV,hPV⟩:∃V,(if C7 y=x then Value.tuple #[RvV y,.bool true]else .tuple #[RvV rv0,.bool false])=V:=⟨_,rfl⟩
 rw[hPV];have HPV:=hid hPV;clear hPV;obtain⟨d,hdd⟩:∃d,x / 128%32=d:=⟨_,rfl⟩
 obtain⟨a,haa⟩:∃d,x / 32768%32=d:=⟨_,rfl⟩
 obtain⟨b,hbb⟩:∃d,x / 1048576%32=d:=⟨_,rfl⟩
 obtain⟨I,hI⟩:∃d,imR 4 x=d:=⟨_,rfl⟩
 have HY:Hid (y=⟨o,d,a,0,I⟩):=hid (by subst hy hI hdd haa hbb;unfold fdR;rw[ef];rfl);have q0:bits .and .u32 (x / 128) 31=d:=by rw[←hdd];exact A9 5 (by omega) (by omega) (by decide) rfl
 have q1:bits .and .u32 (x / 32768) 31=a:=by rw[←haa];exact A9 5 (by omega) (by omega) (by decide) rfl
 have q2:bits .and .u32 (x / 1048576) 31=b:=by rw[←hbb];exact A9 5 (by omega) (by omega) (by decide) rfl
 have d01:0≤d∧d<32:=by omega
 have a01:0≤a∧a<32:=by omega
 have b01:0≤b∧b<32:=by omega
 have w0:IntKind.i64.wrap d=d:=by rw[IntWalk.i64_left];exact IntWalk.wrap64_in _ (by omega)
 have w1:IntKind.i64.wrap a=a:=by rw[IntWalk.i64_left];exact IntWalk.wrap64_in _ (by omega)
 have w2:IntKind.i64.wrap b=b:=by rw[IntWalk.i64_left];exact IntWalk.wrap64_in _ (by omega)
 have hN:x / 1048576=b+x / 33554432*32:=by omega
 have CS:Hid (∀w,Calls prog 92 #[.int .u32 (x / 1048576),.int .i64 12] w fun e w'=>e= .returned (.int .i64 I)∧w=w'):=hid (fun w=>by
  have h:=X6 (x / 1048576) (by omega) (by omega) w;rw[show sgR (x / 1048576) 2048=I by rw[←hI,hN,←hbb];rfl]at h;exact h)
 clear hN;have CE:Hid (∀w,Calls prog 55 #[.agg #[.int .i64 o,.int .i64 d,.int .i64 a,.int .i64 0,.int .i64 I]] w fun e w'=>e= .returned (.int .u32 (C7 y))∧Below w.heap.size w w'):=hid (fun w=>by
  have h:=C3.out w;rw[show RvV y= .agg #[.int .i64 o,.int .i64 d,.int .i64 a,.int .i64 0,.int .i64 I]by rw[HY.out];rfl]at h;exact h)
 clear C3;have HX:=hid (And.intro x0 x1);clear CF0 ef1 ef2 ho hd hy hdd haa hbb o0 o1 d01 a01 b01 ef hI x0 x1;exact q0z
set_option maxHeartbeats 4000000 in
theorem A5O(x:Int)(x0:0≤x)(x1:x<4294967296)(r:Nat)(w:World)(hd:DecIs w r 39)(n1:(x==115)=false)(n2:(x==1048691)=false)(o:Int)(o0:28≤o)(o1:o≤30)(ho:opR (x%128) (x / 4096%8) (x / 33554432)=o):
  Calls prog 57 #[.map (some r),.int .u32 x] w fun e w'=>e= .returned (if C7 (fdR o x)=x then .tuple #[RvV (fdR o x),.bool true]else .tuple #[RvV rv0,.bool false])∧Below w.heap.size w w':=by
 have CF0:=M8 x x0 x1 r (w.alloc (.cells #[.int .i64 0,.int .i64 0,.int .i64 0,.int .i64 0,.int .i64 0] 75)) (MapIs.below hd ((Below.refl _ _).alloc (Nat.le_refl _) _));rw[ho]at CF0;have ef1:O0 o=o:=by unfold O0;rw[if_neg (by omega)]
 have ef2:fIs o=true:=by
  unfold fIs;have:(o==41)=false:=by simp;omega
  rw[this];rfl
 rw[ef1,ef2]at CF0;have CF:Hid (Calls prog 91 #[.map (some r),.int .u32 x] (w.alloc (.cells #[.int .i64 0,.int .i64 0,.int .i64 0,.int .i64 0,.int .i64 0] 75)) fun e w'=>e= .returned (.tuple #[.int .i64 o,.bool true])∧Below (w.heap.size+1) (w.alloc (.cells #[.int .i64 0,.int .i64 0,.int .i64 0,.int .i64 0,.int .i64 0] 75)) w'):=hid (CF0.mono fun e w' h=>⟨h.1,by have:=h.2;rwa[World.size_alloc]at this⟩);have HC0:Hid (Cls (w.alloc (.cells #[.int .i64 0,.int .i64 0,.int .i64 0,.int .i64 0,.int .i64 0] 75)) w.heap.size (rvC rv0)):=hid Cls.made;have BB:Hid (Below w.heap.size w (w.alloc (.cells #[.int .i64 0,.int .i64 0,.int .i64 0,.int .i64 0,.int .i64 0] 75))):=hid ((Below.refl _ _).alloc (Nat.le_refl _) _);have ef:fmR o=5:=A6v (by omega) (by omega);have C1:Hid (∀w,Calls prog 84 #[.int .i64 o] w fun e w'=>e= .returned (.int .i64 5)∧w=w'):=hid (fun w=>by rw[←ef];exact D9 o w);have C2:Hid (∀w,Calls prog 85 #[.int .i64 5] w fun e w'=>e= .returned (.agg #[.bool false,.bool true,.bool true,.bool true])∧Below w.heap.size w w'):=hid (fun w=>M5 5 (by decide) w);obtain⟨y,hy⟩:∃y,fdR o x=y:=⟨_,rfl⟩
 have C3:=hid (K9 y (by rw[←hy];exact Z7 x0 x1 (by omega)));rw[hy];obtain⟨PV,hPV⟩:∃V,(if C7 y=x then Value.tuple #[RvV y,.bool true]else .tuple #[RvV rv0,.bool false])=V:=⟨_,rfl⟩
 rw[hPV];have HPV:=hid hPV;clear hPV;obtain⟨d,hdd⟩:∃d,x / 128%32=d:=⟨_,rfl⟩
 obtain⟨a,haa⟩:∃d,x / 32768%32=d:=⟨_,rfl⟩
 obtain⟨b,hbb⟩:∃d,x / 1048576%32=d:=⟨_,rfl⟩
 obtain⟨I,hI⟩:∃d,imR 5 x=d:=⟨_,rfl⟩
 have HY:Hid (y=⟨o,0,a,b,I⟩):=hid (by subst hy hI hdd haa hbb;unfold fdR;rw[ef];rfl);have q0:bits .and .u32 (x / 128) 31=d:=by rw[←hdd];exact A9 5 (by omega) (by omega) (by decide) rfl
 have q1:bits .and .u32 (x / 32768) 31=a:=by rw[←haa];exact A9 5 (by omega) (by omega) (by decide) rfl
 have q2:bits .and .u32 (x / 1048576) 31=b:=by rw[←hbb];exact A9 5 (by omega) (by omega) (by decide) rfl
 have d01:0≤d∧d<32:=by omega
 have a01:0≤a∧a<32:=by omega
 have b01:0≤b∧b<32:=by omega
 have w0:IntKind.i64.wrap d=d:=by rw[IntWalk.i64_left];exact IntWalk.wrap64_in _ (by omega)
 have w1:IntKind.i64.wrap a=a:=by rw[IntWalk.i64_left];exact IntWalk.wrap64_in _ (by omega)
 have w2:IntKind.i64.wrap b=b:=by rw[IntWalk.i64_left];exact IntWalk.wrap64_in _ (by omega)
 have CB0:=hid (fun w=>A5W x x0 x1 w);obtain⟨p0,hp0⟩:∃p,x / 128%32=p:=⟨_,rfl⟩
 rw[hp0]at CB0;have p0b:0≤p0∧p0<32:=by omega
 have CB1:=hid (fun w=>A3k x x0 x1 w);obtain⟨p1,hp1⟩:∃p,x / 33554432%128=p:=⟨_,rfl⟩
 rw[hp1]at CB1;have p1b:0≤p1∧p1<128:=by omega
 obtain⟨N,hN⟩:∃N,p0+p1*32=N:=⟨_,rfl⟩
 have v0:bits .or .u32 p0 (p1*32)=N:=by rw[←hN];exact B9 5 rfl (by omega) (by omega) (by omega) (by omega)
 have hI2:sgR N 2048=I:=by
  rw[←hI,←hN];show _=sgR (x / 128%32+x / 33554432*32) 2048
  congr 1;omega
 have CS:Hid (∀w,Calls prog 92 #[.int .u32 N,.int .i64 12] w fun e w'=>e= .returned (.int .i64 I)∧w=w'):=hid (fun w=>by
  have h:=X6 N (by omega) (by omega) w;rw[hI2]at h;exact h)
 clear hI2 hN hp0 p0b hp1 p1b;have CE:Hid (∀w,Calls prog 55 #[.agg #[.int .i64 o,.int .i64 0,.int .i64 a,.int .i64 b,.int .i64 I]] w fun e w'=>e= .returned (.int .u32 (C7 y))∧Below w.heap.size w w'):=hid (fun w=>by
  have h:=C3.out w;rw[show RvV y= .agg #[.int .i64 o,.int .i64 0,.int .i64 a,.int .i64 b,.int .i64 I]by rw[HY.out];rfl]at h;exact h)
 clear C3;have HX:=hid (And.intro x0 x1);clear CF0 ef1 ef2 ho hd hy hdd haa hbb o0 o1 d01 a01 b01 ef hI x0 x1;go_enter func57,ntmps57;go_upto_region 13 with(first|(go_at_call 91;(with_reducible refine CF.out.mono ?_);rintro e wa ⟨rfl,hb2⟩;have hsz:w.heap.size+1≤wa.heap.size:=Nat.le_trans (by simp) hb2.size;have HB2:=hid hb2;clear hb2)|(go_at_call 84;(with_reducible refine(C1.out _).mono ?_);rintro e w1 ⟨rfl,rfl⟩)|(go_at_call 85;(with_reducible refine(C2.out _).mono ?_);rintro e wb ⟨rfl,hb3⟩;have HB3:=hid hb3;clear hb3))
 have HD0:DecW w wa.heap.size wb.heap.size [.int .i64 o,.int .i64 0,.int .i64 0,.int .i64 0,.int .i64 0] [.bool false,.bool true,.bool true,.bool true] ((wb.alloc (.cells #[.bool false,.bool true,.bool true,.bool true] 165)).alloc (.cells #[.pointer (some ⟨wa.heap.size,1,none⟩),.pointer (some ⟨wa.heap.size,2,none⟩),.pointer (some ⟨wa.heap.size,3,none⟩)] 173)):=by
  have hb2:=HB2.out;have hb3:=HB3.out;have ha:Below wa.heap.size wa (wa.alloc (.cells #[.int .i64 o,.int .i64 0,.int .i64 0,.int .i64 0,.int .i64 0] 75)):=(Below.refl _ _).alloc (Nat.le_refl _) _;have hl:=hb3.size;rw[World.size_alloc]at hl;have hw:Below wb.heap.size wb ((wb.alloc (.cells #[.bool false,.bool true,.bool true,.bool true] 165)).alloc (.cells #[.pointer (some ⟨wa.heap.size,1,none⟩),.pointer (some ⟨wa.heap.size,2,none⟩),.pointer (some ⟨wa.heap.size,3,none⟩)] 173)):=((Below.refl _ _).alloc (Nat.le_refl _) _).alloc (by simp) _;refine⟨((HC0.out.below (Nat.lt_succ_self _) hb2).below (by omega) (ha.trans (hb3.mono (by rw[World.size_alloc];omega)))).below (by omega) hw,(Cls.below (Cls.made (cs:=[.int .i64 o,.int .i64 0,.int .i64 0,.int .i64 0,.int .i64 0]) (t:=75)) (by rw[World.size_alloc];omega) hb3).below (by omega) hw,Cls.below (Cls.made (cs:=[.bool false,.bool true,.bool true,.bool true]) (t:=165)) (Nat.lt_succ_self _) ((Below.refl _ _).alloc (by simp) _),?_,?_,by omega,by omega,by simp⟩
  ·have:=Cls.made (w:=wb.alloc (.cells #[.bool false,.bool true,.bool true,.bool true] 165)) (cs:=[.pointer (some ⟨wa.heap.size,1,none⟩),.pointer (some ⟨wa.heap.size,2,none⟩),.pointer (some ⟨wa.heap.size,3,none⟩)]) (t:=173);rwa[World.size_alloc]at this
  ·exact((BB.out.trans (hb2.mono (by omega))).trans (ha.mono (by omega))).trans ((hb3.mono (by rw[World.size_alloc];omega)).trans (hw.mono (by omega)))
 have HD:=hid HD0;clear HD0 HB2 HB3 HC0 BB;generalize((wb.alloc (.cells #[.bool false,.bool true,.bool true,.bool true] 165)).alloc (.cells #[.pointer (some ⟨wa.heap.size,1,none⟩),.pointer (some ⟨wa.heap.size,2,none⟩),.pointer (some ⟨wa.heap.size,3,none⟩)] 173))=WL at*
 generalize wa.heap.size=X at*
 generalize wb.heap.size=A at*
 go_loopw[11,12,40] (fun _ _ i wr=>(i= .int .i64 0∧DecW w X A [.int .i64 o,.int .i64 0,.int .i64 0,.int .i64 0,.int .i64 0] [.bool false,.bool true,.bool true,.bool true] wr)∨(i= .int .i64 1∧DecW w X A [.int .i64 o,.int .i64 0,.int .i64 0,.int .i64 0,.int .i64 0] [.bool false,.bool true,.bool true,.bool true] wr)∨(i= .int .i64 2∧DecW w X A [.int .i64 o,.int .i64 0,.int .i64 a,.int .i64 0,.int .i64 0] [.bool false,.bool true,.bool true,.bool true] wr)∨(i= .int .i64 3∧DecW w X A [.int .i64 o,.int .i64 0,.int .i64 a,.int .i64 b,.int .i64 0] [.bool false,.bool true,.bool true,.bool true] wr)) (fun _ _ i _=>3-(intOf i).toNat)
 case atStart=>exact .inl ⟨rfl,HD.out⟩
 case round=>
  clear HD;rcases hrel with⟨rfl,hD⟩|⟨rfl,hD⟩|⟨rfl,hD⟩|⟨rfl,hD⟩
  ·have HD:=hid hD;have n1':=hD.n1;have n2':=hD.n2;have n3':=hD.n3;have s0:=hD.sc.at 0 _ rfl;have a0:=hD.ac.at 0 _ rfl;have x0:=hD.xc.at 1 _ rfl;have xf:=hD.xc.at' 1 _ rfl;have hx1:¬X=wr.heap.size:=by omega
   have hx2:X<wr.heap.size:=by omega
   clear hD;go_wp2_with fail
   go_roundw
   case rel=>exact .inr (.inl ⟨rfl,HD.out⟩)
   case measure=>simp[intOf]
  ·have HD:=hid hD;have n1':=hD.n1;have n2':=hD.n2;have n3':=hD.n3;have s0:=hD.sc.at 1 _ rfl;have a0:=hD.ac.at 1 _ rfl;have x0:=hD.xc.at 2 _ rfl;have xf:=hD.xc.at' 2 _ rfl;have hx1:¬X=wr.heap.size:=by omega
   have hx2:X<wr.heap.size:=by omega
   clear hD;exact A8c
  ·have HD:=hid hD;have n1':=hD.n1;have n2':=hD.n2;have n3':=hD.n3;have s0:=hD.sc.at 2 _ rfl;have a0:=hD.ac.at 2 _ rfl;have x0:=hD.xc.at 3 _ rfl;have xf:=hD.xc.at' 3 _ rfl;have hx1:¬X=wr.heap.size:=by omega
   have hx2:X<wr.heap.size:=by omega
   clear hD;exact B1I
  ·have HKm:=hid hD;have t1:=hD.n1;have t2:=hD.n2;have t3:=hD.n3;clear hD;cases g:(C7 y==x)
   ·have g1:(C7 y !=x)=true:=by simp[bne,g]
    have HG:=hid g;obtain⟨E,hE⟩:∃E,C7 y=E:=⟨_,rfl⟩
    rw[hE]at CE g1 g;have HEE:=hid hE;clear hE;go_wp2_with(first|(go_at_call 90;(with_reducible refine(CB0.out _).mono ?_);rintro e wk0 ⟨rfl,hdr⟩;have HK0:=hid (HKm.out.below (hdr.below _));clear hdr)|(go_at_call 90;(with_reducible refine(CB1.out _).mono ?_);rintro e wk1 ⟨rfl,hdr⟩;have HK1:=hid (HK0.out.below (hdr.below _));clear hdr;have z0:=HK1.out.xc.five.1.1;have z1:=HK1.out.xc.five.1.2.1;have z2:=HK1.out.xc.five.1.2.2.1;have z3:=HK1.out.xc.five.1.2.2.2.1;have z4:=HK1.out.xc.five.1.2.2.2.2;have zf:=HK1.out.xc.five.2.2.2.2.2)|(go_at_call 92;(with_reducible refine(CS.out _).mono ?_);rintro e wg ⟨rfl,rfl⟩)|(go_at_call 55;(with_reducible refine(CE.out _).mono ?_);rintro e we ⟨rfl,hbe⟩;have HE:=hid ((HK1.out.set (k:=4) (by simp) _).below hbe);clear hbe z0 z1 z2 z3 z4 zf;obtain⟨⟨z0,z1,z2,z3,z4⟩,y0,y1,y2,y3,y4⟩:=HE.out.xc.five;obtain⟨⟨c0,c1,c2,c3,c4⟩,f0,f1,f2,f3,f4⟩:=HE.out.r0.five;have m1:=HE.out.n1))
    exact q7z
   ·have g1:(C7 y !=x)=false:=by simp[bne,g]
    have HG:=hid g;obtain⟨E,hE⟩:∃E,C7 y=E:=⟨_,rfl⟩
    rw[hE]at CE g1 g;have HEE:=hid hE;clear hE;go_wp2_with(first|(go_at_call 90;(with_reducible refine(CB0.out _).mono ?_);rintro e wk0 ⟨rfl,hdr⟩;have HK0:=hid (HKm.out.below (hdr.below _));clear hdr)|(go_at_call 90;(with_reducible refine(CB1.out _).mono ?_);rintro e wk1 ⟨rfl,hdr⟩;have HK1:=hid (HK0.out.below (hdr.below _));clear hdr;have z0:=HK1.out.xc.five.1.1;have z1:=HK1.out.xc.five.1.2.1;have z2:=HK1.out.xc.five.1.2.2.1;have z3:=HK1.out.xc.five.1.2.2.2.1;have z4:=HK1.out.xc.five.1.2.2.2.2;have zf:=HK1.out.xc.five.2.2.2.2.2)|(go_at_call 92;(with_reducible refine(CS.out _).mono ?_);rintro e wg ⟨rfl,rfl⟩)|(go_at_call 55;(with_reducible refine(CE.out _).mono ?_);rintro e we ⟨rfl,hbe⟩;have HE:=hid ((HK1.out.set (k:=4) (by simp) _).below hbe);clear hbe z0 z1 z2 z3 z4 zf;obtain⟨⟨z0,z1,z2,z3,z4⟩,y0,y1,y2,y3,y4⟩:=HE.out.xc.five;obtain⟨⟨c0,c1,c2,c3,c4⟩,f0,f1,f2,f3,f4⟩:=HE.out.r0.five;have m1:=HE.out.n1))
    exact B3z
set_option maxHeartbeats 4000000 in
theorem A5N(x:Int)(x0:0≤x)(x1:x<4294967296)(r:Nat)(w:World)(hd:DecIs w r 39)(n1:(x==115)=false)(n2:(x==1048691)=false)(o:Int)(o0:31≤o)(o1:o≤36)(ho:opR (x%128) (x / 4096%8) (x / 33554432)=o):
  Calls prog 57 #[.map (some r),.int .u32 x] w fun e w'=>e= .returned (if C7 (fdR o x)=x then .tuple #[RvV (fdR o x),.bool true]else .tuple #[RvV rv0,.bool false])∧Below w.heap.size w w':=by
 have CF0:=M8 x x0 x1 r (w.alloc (.cells #[.int .i64 0,.int .i64 0,.int .i64 0,.int .i64 0,.int .i64 0] 75)) (MapIs.below hd ((Below.refl _ _).alloc (Nat.le_refl _) _));rw[ho]at CF0;have ef1:O0 o=o:=by unfold O0;rw[if_neg (by omega)]
 have ef2:fIs o=true:=by
  unfold fIs;have:(o==41)=false:=by simp;omega
  rw[this];rfl
 rw[ef1,ef2]at CF0;have CF:Hid (Calls prog 91 #[.map (some r),.int .u32 x] (w.alloc (.cells #[.int .i64 0,.int .i64 0,.int .i64 0,.int .i64 0,.int .i64 0] 75)) fun e w'=>e= .returned (.tuple #[.int .i64 o,.bool true])∧Below (w.heap.size+1) (w.alloc (.cells #[.int .i64 0,.int .i64 0,.int .i64 0,.int .i64 0,.int .i64 0] 75)) w'):=hid (CF0.mono fun e w' h=>⟨h.1,by have:=h.2;rwa[World.size_alloc]at this⟩);have HC0:Hid (Cls (w.alloc (.cells #[.int .i64 0,.int .i64 0,.int .i64 0,.int .i64 0,.int .i64 0] 75)) w.heap.size (rvC rv0)):=hid Cls.made;have BB:Hid (Below w.heap.size w (w.alloc (.cells #[.int .i64 0,.int .i64 0,.int .i64 0,.int .i64 0,.int .i64 0] 75))):=hid ((Below.refl _ _).alloc (Nat.le_refl _) _);have ef:fmR o=6:=A6u (by omega) (by omega);have C1:Hid (∀w,Calls prog 84 #[.int .i64 o] w fun e w'=>e= .returned (.int .i64 6)∧w=w'):=hid (fun w=>by rw[←ef];exact D9 o w);have C2:Hid (∀w,Calls prog 85 #[.int .i64 6] w fun e w'=>e= .returned (.agg #[.bool false,.bool true,.bool true,.bool true])∧Below w.heap.size w w'):=hid (fun w=>M5 6 (by decide) w);obtain⟨y,hy⟩:∃y,fdR o x=y:=⟨_,rfl⟩
 have C3:=hid (K9 y (by rw[←hy];exact Z7 x0 x1 (by omega)));rw[hy];obtain⟨PV,hPV⟩:∃V,(if C7 y=x then Value.tuple #[RvV y,.bool true]else .tuple #[RvV rv0,.bool false])=V:=⟨_,rfl⟩
 rw[hPV];have HPV:=hid hPV;clear hPV;obtain⟨d,hdd⟩:∃d,x / 128%32=d:=⟨_,rfl⟩
 obtain⟨a,haa⟩:∃d,x / 32768%32=d:=⟨_,rfl⟩
 obtain⟨b,hbb⟩:∃d,x / 1048576%32=d:=⟨_,rfl⟩
 obtain⟨I,hI⟩:∃d,imR 6 x=d:=⟨_,rfl⟩
 have HY:Hid (y=⟨o,0,a,b,I⟩):=hid (by subst hy hI hdd haa hbb;unfold fdR;rw[ef];rfl);have q0:bits .and .u32 (x / 128) 31=d:=by rw[←hdd];exact A9 5 (by omega) (by omega) (by decide) rfl
 have q1:bits .and .u32 (x / 32768) 31=a:=by rw[←haa];exact A9 5 (by omega) (by omega) (by decide) rfl
 have q2:bits .and .u32 (x / 1048576) 31=b:=by rw[←hbb];exact A9 5 (by omega) (by omega) (by decide) rfl
 have d01:0≤d∧d<32:=by omega
 have a01:0≤a∧a<32:=by omega
 have b01:0≤b∧b<32:=by omega
 have w0:IntKind.i64.wrap d=d:=by rw[IntWalk.i64_left];exact IntWalk.wrap64_in _ (by omega)
 have w1:IntKind.i64.wrap a=a:=by rw[IntWalk.i64_left];exact IntWalk.wrap64_in _ (by omega)
 have w2:IntKind.i64.wrap b=b:=by rw[IntWalk.i64_left];exact IntWalk.wrap64_in _ (by omega)
 have CB0:=hid (fun w=>A3h x x0 x1 w);obtain⟨p0,hp0⟩:∃p,x / 128%2=p:=⟨_,rfl⟩
 rw[hp0]at CB0;have p0b:0≤p0∧p0<2:=by omega
 have CB1:=hid (fun w=>A5V x x0 x1 w);obtain⟨p1,hp1⟩:∃p,x / 256%16=p:=⟨_,rfl⟩
 rw[hp1]at CB1;have p1b:0≤p1∧p1<16:=by omega
 have CB2:=hid (fun w=>A3l x x0 x1 w);obtain⟨p2,hp2⟩:∃p,x / 33554432%64=p:=⟨_,rfl⟩
 rw[hp2]at CB2;have p2b:0≤p2∧p2<64:=by omega
 have CB3:=hid (fun w=>A2j x x0 x1 w);obtain⟨p3,hp3⟩:∃p,x / 2147483648%2=p:=⟨_,rfl⟩
 rw[hp3]at CB3;have p3b:0≤p3∧p3<2:=by omega
 obtain⟨N1,hN1⟩:∃N,p1*2+p0*2048=N:=⟨_,rfl⟩
 obtain⟨N2,hN2⟩:∃N,p1*2+p2*32+p0*2048=N:=⟨_,rfl⟩
 obtain⟨N,hN⟩:∃N,N2+p3*4096=N:=⟨_,rfl⟩
 have v0:bits .or .u32 (p0*2048) (p1*2)=N1:=by
  rw[←hN1,show p1*2+p0*2048=0+p1*2+p0*2048 by omega];exact M0 1 10 rfl rfl rfl (n:=1024) (by omega) (by omega) (by omega) (by omega) (by omega) (by omega) (by omega)
 have v1:bits .or .u32 N1 (p2*32)=N2:=by
  rw[←hN2,show p1*2+p2*32+p0*2048=p1*2+p2*32+p0*2048 by omega];exact M0 5 6 rfl rfl rfl (n:=64) (by omega) (by omega) (by omega) (by omega) (by omega) (by omega) (by omega)
 have v2:bits .or .u32 N2 (p3*4096)=N:=by rw[←hN];exact B9 12 rfl (by omega) (by omega) (by omega) (by omega)
 have hI2:sgR N 4096=I:=by
  rw[←hI,←hN,←hN2];show _=sgR (x / 128%32 / 2*2+x / 33554432%64*32+x / 128%32%2*2048+x / 33554432 / 64*4096) 4096
  have h1:x / 256=x / 128 / 2:=by omega
  have h2:x / 2147483648=x / 33554432 / 64:=by omega
  have h3:x / 33554432<128:=by omega
  rw[h1]at hp1;rw[h2]at hp3;generalize x / 128=q at*
  generalize x / 33554432=s at*
  congr 1;omega
 have CS:Hid (∀w,Calls prog 92 #[.int .u32 N,.int .i64 13] w fun e w'=>e= .returned (.int .i64 I)∧w=w'):=hid (fun w=>by
  have h:=A4O N (by omega) (by omega) w;rw[hI2]at h;exact h)
 clear hI2 hN hp0 p0b hp1 p1b hp2 p2b hp3 p3b hN1 hN2;have CE:Hid (∀w,Calls prog 55 #[.agg #[.int .i64 o,.int .i64 0,.int .i64 a,.int .i64 b,.int .i64 I]] w fun e w'=>e= .returned (.int .u32 (C7 y))∧Below w.heap.size w w'):=hid (fun w=>by
  have h:=C3.out w;rw[show RvV y= .agg #[.int .i64 o,.int .i64 0,.int .i64 a,.int .i64 b,.int .i64 I]by rw[HY.out];rfl]at h;exact h)
 clear C3;have HX:=hid (And.intro x0 x1);clear CF0 ef1 ef2 ho hd hy hdd haa hbb o0 o1 d01 a01 b01 ef hI x0 x1;go_enter func57,ntmps57;go_upto_region 13 with(first|(go_at_call 91;(with_reducible refine CF.out.mono ?_);rintro e wa ⟨rfl,hb2⟩;have hsz:w.heap.size+1≤wa.heap.size:=Nat.le_trans (by simp) hb2.size;have HB2:=hid hb2;clear hb2)|(go_at_call 84;(with_reducible refine(C1.out _).mono ?_);rintro e w1 ⟨rfl,rfl⟩)|(go_at_call 85;(with_reducible refine(C2.out _).mono ?_);rintro e wb ⟨rfl,hb3⟩;have HB3:=hid hb3;clear hb3))
 have HD0:DecW w wa.heap.size wb.heap.size [.int .i64 o,.int .i64 0,.int .i64 0,.int .i64 0,.int .i64 0] [.bool false,.bool true,.bool true,.bool true] ((wb.alloc (.cells #[.bool false,.bool true,.bool true,.bool true] 165)).alloc (.cells #[.pointer (some ⟨wa.heap.size,1,none⟩),.pointer (some ⟨wa.heap.size,2,none⟩),.pointer (some ⟨wa.heap.size,3,none⟩)] 173)):=by
  have hb2:=HB2.out;have hb3:=HB3.out;have ha:Below wa.heap.size wa (wa.alloc (.cells #[.int .i64 o,.int .i64 0,.int .i64 0,.int .i64 0,.int .i64 0] 75)):=(Below.refl _ _).alloc (Nat.le_refl _) _;have hl:=hb3.size;rw[World.size_alloc]at hl;have hw:Below wb.heap.size wb ((wb.alloc (.cells #[.bool false,.bool true,.bool true,.bool true] 165)).alloc (.cells #[.pointer (some ⟨wa.heap.size,1,none⟩),.pointer (some ⟨wa.heap.size,2,none⟩),.pointer (some ⟨wa.heap.size,3,none⟩)] 173)):=((Below.refl _ _).alloc (Nat.le_refl _) _).alloc (by simp) _;refine⟨((HC0.out.below (Nat.lt_succ_self _) hb2).below (by omega) (ha.trans (hb3.mono (by rw[World.size_alloc];omega)))).below (by omega) hw,(Cls.below (Cls.made (cs:=[.int .i64 o,.int .i64 0,.int .i64 0,.int .i64 0,.int .i64 0]) (t:=75)) (by rw[World.size_alloc];omega) hb3).below (by omega) hw,Cls.below (Cls.made (cs:=[.bool false,.bool true,.bool true,.bool true]) (t:=165)) (Nat.lt_succ_self _) ((Below.refl _ _).alloc (by simp) _),?_,?_,by omega,by omega,by simp⟩
  ·have:=Cls.made (w:=wb.alloc (.cells #[.bool false,.bool true,.bool true,.bool true] 165)) (cs:=[.pointer (some ⟨wa.heap.size,1,none⟩),.pointer (some ⟨wa.heap.size,2,none⟩),.pointer (some ⟨wa.heap.size,3,none⟩)]) (t:=173);rwa[World.size_alloc]at this
  ·exact((BB.out.trans (hb2.mono (by omega))).trans (ha.mono (by omega))).trans ((hb3.mono (by rw[World.size_alloc];omega)).trans (hw.mono (by omega)))
 have HD:=hid HD0;clear HD0 HB2 HB3 HC0 BB;generalize((wb.alloc (.cells #[.bool false,.bool true,.bool true,.bool true] 165)).alloc (.cells #[.pointer (some ⟨wa.heap.size,1,none⟩),.pointer (some ⟨wa.heap.size,2,none⟩),.pointer (some ⟨wa.heap.size,3,none⟩)] 173))=WL at*
 generalize wa.heap.size=X at*
 generalize wb.heap.size=A at*
 go_loopw[11,12,40] (fun _ _ i wr=>(i= .int .i64 0∧DecW w X A [.int .i64 o,.int .i64 0,.int .i64 0,.int .i64 0,.int .i64 0] [.bool false,.bool true,.bool true,.bool true] wr)∨(i= .int .i64 1∧DecW w X A [.int .i64 o,.int .i64 0,.int .i64 0,.int .i64 0,.int .i64 0] [.bool false,.bool true,.bool true,.bool true] wr)∨(i= .int .i64 2∧DecW w X A [.int .i64 o,.int .i64 0,.int .i64 a,.int .i64 0,.int .i64 0] [.bool false,.bool true,.bool true,.bool true] wr)∨(i= .int .i64 3∧DecW w X A [.int .i64 o,.int .i64 0,.int .i64 a,.int .i64 b,.int .i64 0] [.bool false,.bool true,.bool true,.bool true] wr)) (fun _ _ i _=>3-(intOf i).toNat)
 case atStart=>exact .inl ⟨rfl,HD.out⟩
 case round=>
  clear HD;rcases hrel with⟨rfl,hD⟩|⟨rfl,hD⟩|⟨rfl,hD⟩|⟨rfl,hD⟩
  ·have HD:=hid hD;have n1':=hD.n1;have n2':=hD.n2;have n3':=hD.n3;have s0:=hD.sc.at 0 _ rfl;have a0:=hD.ac.at 0 _ rfl;have x0:=hD.xc.at 1 _ rfl;have xf:=hD.xc.at' 1 _ rfl;have hx1:¬X=wr.heap.size:=by omega
   have hx2:X<wr.heap.size:=by omega
   clear hD;go_wp2_with fail
   go_roundw
   case rel=>exact .inr (.inl ⟨rfl,HD.out⟩)
   case measure=>simp[intOf]
  ·have HD:=hid hD;have n1':=hD.n1;have n2':=hD.n2;have n3':=hD.n3;have s0:=hD.sc.at 1 _ rfl;have a0:=hD.ac.at 1 _ rfl;have x0:=hD.xc.at 2 _ rfl;have xf:=hD.xc.at' 2 _ rfl;have hx1:¬X=wr.heap.size:=by omega
   have hx2:X<wr.heap.size:=by omega
   clear hD;exact A8c
  ·have HD:=hid hD;have n1':=hD.n1;have n2':=hD.n2;have n3':=hD.n3;have s0:=hD.sc.at 2 _ rfl;have a0:=hD.ac.at 2 _ rfl;have x0:=hD.xc.at 3 _ rfl;have xf:=hD.xc.at' 3 _ rfl;have hx1:¬X=wr.heap.size:=by omega
   have hx2:X<wr.heap.size:=by omega
   clear hD;exact B1I
  ·have HKm:=hid hD;have t1:=hD.n1;have t2:=hD.n2;have t3:=hD.n3;clear hD;cases g:(C7 y==x)
   ·have g1:(C7 y !=x)=true:=by simp[bne,g]
    have HG:=hid g;obtain⟨E,hE⟩:∃E,C7 y=E:=⟨_,rfl⟩
    rw[hE]at CE g1 g;have HEE:=hid hE;clear hE;exact B4C
   ·have g1:(C7 y !=x)=false:=by simp[bne,g]
    have HG:=hid g;obtain⟨E,hE⟩:∃E,C7 y=E:=⟨_,rfl⟩
    rw[hE]at CE g1 g;have HEE:=hid hE;clear hE;go_wp2_with(first|(go_at_call 90;(with_reducible refine(CB0.out _).mono ?_);rintro e wk0 ⟨rfl,hdr⟩;have HK0:=hid (HKm.out.below (hdr.below _));clear hdr)|(go_at_call 90;(with_reducible refine(CB1.out _).mono ?_);rintro e wk1 ⟨rfl,hdr⟩;have HK1:=hid (HK0.out.below (hdr.below _));clear hdr)|(go_at_call 90;(with_reducible refine(CB2.out _).mono ?_);rintro e wk2 ⟨rfl,hdr⟩;have HK2:=hid (HK1.out.below (hdr.below _));clear hdr)|(go_at_call 90;(with_reducible refine(CB3.out _).mono ?_);rintro e wk3 ⟨rfl,hdr⟩;have HK3:=hid (HK2.out.below (hdr.below _));clear hdr;have z0:=HK3.out.xc.five.1.1;have z1:=HK3.out.xc.five.1.2.1;have z2:=HK3.out.xc.five.1.2.2.1;have z3:=HK3.out.xc.five.1.2.2.2.1;have z4:=HK3.out.xc.five.1.2.2.2.2;have zf:=HK3.out.xc.five.2.2.2.2.2)|(go_at_call 92;(with_reducible refine(CS.out _).mono ?_);rintro e wg ⟨rfl,rfl⟩)|(go_at_call 55;(with_reducible refine(CE.out _).mono ?_);rintro e we ⟨rfl,hbe⟩;have HE:=hid ((HK3.out.set (k:=4) (by simp) _).below hbe);clear hbe z0 z1 z2 z3 z4 zf;obtain⟨⟨z0,z1,z2,z3,z4⟩,y0,y1,y2,y3,y4⟩:=HE.out.xc.five;obtain⟨⟨c0,c1,c2,c3,c4⟩,f0,f1,f2,f3,f4⟩:=HE.out.r0.five;have m1:=HE.out.n1))
    exact B3z
set_option maxHeartbeats 4000000 in
theorem A5M(x:Int)(x0:0≤x)(x1:x<4294967296)(r:Nat)(w:World)(hd:DecIs w r 39)(n1:(x==115)=false)(n2:(x==1048691)=false)(o:Int)(o0:37≤o)(o1:o≤37)(ho:opR (x%128) (x / 4096%8) (x / 33554432)=o):
  Calls prog 57 #[.map (some r),.int .u32 x] w fun e w'=>e= .returned (if C7 (fdR o x)=x then .tuple #[RvV (fdR o x),.bool true]else .tuple #[RvV rv0,.bool false])∧Below w.heap.size w w':=by
 have CF0:=M8 x x0 x1 r (w.alloc (.cells #[.int .i64 0,.int .i64 0,.int .i64 0,.int .i64 0,.int .i64 0] 75)) (MapIs.below hd ((Below.refl _ _).alloc (Nat.le_refl _) _));rw[ho]at CF0;have ef1:O0 o=o:=by unfold O0;rw[if_neg (by omega)]
 have ef2:fIs o=true:=by
  unfold fIs;have:(o==41)=false:=by simp;omega
  rw[this];rfl
 rw[ef1,ef2]at CF0;have CF:Hid (Calls prog 91 #[.map (some r),.int .u32 x] (w.alloc (.cells #[.int .i64 0,.int .i64 0,.int .i64 0,.int .i64 0,.int .i64 0] 75)) fun e w'=>e= .returned (.tuple #[.int .i64 o,.bool true])∧Below (w.heap.size+1) (w.alloc (.cells #[.int .i64 0,.int .i64 0,.int .i64 0,.int .i64 0,.int .i64 0] 75)) w'):=hid (CF0.mono fun e w' h=>⟨h.1,by have:=h.2;rwa[World.size_alloc]at this⟩);have HC0:Hid (Cls (w.alloc (.cells #[.int .i64 0,.int .i64 0,.int .i64 0,.int .i64 0,.int .i64 0] 75)) w.heap.size (rvC rv0)):=hid Cls.made;have BB:Hid (Below w.heap.size w (w.alloc (.cells #[.int .i64 0,.int .i64 0,.int .i64 0,.int .i64 0,.int .i64 0] 75))):=hid ((Below.refl _ _).alloc (Nat.le_refl _) _);have ef:fmR o=7:=A6t (by omega) (by omega);have C1:Hid (∀w,Calls prog 84 #[.int .i64 o] w fun e w'=>e= .returned (.int .i64 7)∧w=w'):=hid (fun w=>by rw[←ef];exact D9 o w);have C2:Hid (∀w,Calls prog 85 #[.int .i64 7] w fun e w'=>e= .returned (.agg #[.bool true,.bool false,.bool false,.bool true])∧Below w.heap.size w w'):=hid (fun w=>M5 7 (by decide) w);obtain⟨y,hy⟩:∃y,fdR o x=y:=⟨_,rfl⟩
 have C3:=hid (K9 y (by rw[←hy];exact Z7 x0 x1 (by omega)));rw[hy];obtain⟨PV,hPV⟩:∃V,(if C7 y=x then Value.tuple #[RvV y,.bool true]else .tuple #[RvV rv0,.bool false])=V:=⟨_,rfl⟩
 rw[hPV];have HPV:=hid hPV;clear hPV;obtain⟨d,hdd⟩:∃d,x / 128%32=d:=⟨_,rfl⟩
 obtain⟨a,haa⟩:∃d,x / 32768%32=d:=⟨_,rfl⟩
 obtain⟨b,hbb⟩:∃d,x / 1048576%32=d:=⟨_,rfl⟩
 obtain⟨I,hI⟩:∃d,imR 7 x=d:=⟨_,rfl⟩
 have HY:Hid (y=⟨o,d,0,0,I⟩):=hid (by subst hy hI hdd haa hbb;unfold fdR;rw[ef];rfl);have q0:bits .and .u32 (x / 128) 31=d:=by rw[←hdd];exact A9 5 (by omega) (by omega) (by decide) rfl
 have q1:bits .and .u32 (x / 32768) 31=a:=by rw[←haa];exact A9 5 (by omega) (by omega) (by decide) rfl
 have q2:bits .and .u32 (x / 1048576) 31=b:=by rw[←hbb];exact A9 5 (by omega) (by omega) (by decide) rfl
 have d01:0≤d∧d<32:=by omega
 have a01:0≤a∧a<32:=by omega
 have b01:0≤b∧b<32:=by omega
 have w0:IntKind.i64.wrap d=d:=by rw[IntWalk.i64_left];exact IntWalk.wrap64_in _ (by omega)
 have w1:IntKind.i64.wrap a=a:=by rw[IntWalk.i64_left];exact IntWalk.wrap64_in _ (by omega)
 have w2:IntKind.i64.wrap b=b:=by rw[IntWalk.i64_left];exact IntWalk.wrap64_in _ (by omega)
 have CB0:=hid (fun w=>u6 x x0 x1 w);obtain⟨p0,hp0⟩:∃p,x / 4096%256=p:=⟨_,rfl⟩
 rw[hp0]at CB0;have p0b:0≤p0∧p0<256:=by omega
 have CB1:=hid (fun w=>A2m x x0 x1 w);obtain⟨p1,hp1⟩:∃p,x / 1048576%2=p:=⟨_,rfl⟩
 rw[hp1]at CB1;have p1b:0≤p1∧p1<2:=by omega
 have CB2:=hid (fun w=>A2k x x0 x1 w);obtain⟨p2,hp2⟩:∃p,x / 2097152%1024=p:=⟨_,rfl⟩
 rw[hp2]at CB2;have p2b:0≤p2∧p2<1024:=by omega
 have CB3:=hid (fun w=>A2i x x0 x1 w);obtain⟨p3,hp3⟩:∃p,x / 2147483648%2=p:=⟨_,rfl⟩
 rw[hp3]at CB3;have p3b:0≤p3∧p3<2:=by omega
 obtain⟨N1,hN1⟩:∃N,p1*2048+p0*4096=N:=⟨_,rfl⟩
 obtain⟨N2,hN2⟩:∃N,p2*2+(p1+p0*2)*2048=N:=⟨_,rfl⟩
 obtain⟨N,hN⟩:∃N,N2+p3*1048576=N:=⟨_,rfl⟩
 have v0:bits .or .u32 (p0*4096) (p1*2048)=N1:=by
  rw[←hN1,show p1*2048+p0*4096=0+p1*2048+p0*4096 by omega];exact M0 11 1 rfl rfl rfl (n:=2) (by omega) (by omega) (by omega) (by omega) (by omega) (by omega) (by omega)
 have v1:bits .or .u32 N1 (p2*2)=N2:=by
  rw[←hN2,show p2*2+(p1+p0*2)*2048=0+p2*2+(p1+p0*2)*2048 by omega];exact M0 1 10 rfl rfl rfl (n:=1024) (by omega) (by omega) (by omega) (by omega) (by omega) (by omega) (by omega)
 have v2:bits .or .u32 N2 (p3*1048576)=N:=by rw[←hN];exact B9 20 rfl (by omega) (by omega) (by omega) (by omega)
 have hI2:sgR N 1048576=I:=by
  rw[←hI,←hN,←hN2];show _=sgR (x / 1048576%32 / 2*2+x / 33554432%64*32+x / 1048576%32%2*2048+x / 4096%256*4096+x / 33554432 / 64*1048576) 1048576
  have h1:x / 2097152=x / 1048576 / 2:=by omega
  have h2:x / 2147483648=x / 33554432 / 64:=by omega
  have h3:x / 33554432=x / 1048576 / 32:=by omega
  have h4:x / 1048576<4096:=by omega
  rw[h1]at hp2;rw[h2,h3]at hp3;rw[h3];rw[hp0];generalize x / 1048576=q at*
  congr 1;omega
 have CS:Hid (∀w,Calls prog 92 #[.int .u32 N,.int .i64 21] w fun e w'=>e= .returned (.int .i64 I)∧w=w'):=hid (fun w=>by
  have h:=A4N N (by omega) (by omega) w;rw[hI2]at h;exact h)
 clear hI2 hN hp0 p0b hp1 p1b hp2 p2b hp3 p3b hN1 hN2;have CE:Hid (∀w,Calls prog 55 #[.agg #[.int .i64 o,.int .i64 d,.int .i64 0,.int .i64 0,.int .i64 I]] w fun e w'=>e= .returned (.int .u32 (C7 y))∧Below w.heap.size w w'):=hid (fun w=>by
  have h:=C3.out w;rw[show RvV y= .agg #[.int .i64 o,.int .i64 d,.int .i64 0,.int .i64 0,.int .i64 I]by rw[HY.out];rfl]at h;exact h)
 clear C3;have HX:=hid (And.intro x0 x1);clear CF0 ef1 ef2 ho hd hy hdd haa hbb o0 o1 d01 a01 b01 ef hI x0 x1;go_enter func57,ntmps57;go_upto_region 13 with(first|(go_at_call 91;(with_reducible refine CF.out.mono ?_);rintro e wa ⟨rfl,hb2⟩;have hsz:w.heap.size+1≤wa.heap.size:=Nat.le_trans (by simp) hb2.size;have HB2:=hid hb2;clear hb2)|(go_at_call 84;(with_reducible refine(C1.out _).mono ?_);rintro e w1 ⟨rfl,rfl⟩)|(go_at_call 85;(with_reducible refine(C2.out _).mono ?_);rintro e wb ⟨rfl,hb3⟩;have HB3:=hid hb3;clear hb3))
 have HD0:DecW w wa.heap.size wb.heap.size [.int .i64 o,.int .i64 0,.int .i64 0,.int .i64 0,.int .i64 0] [.bool true,.bool false,.bool false,.bool true] ((wb.alloc (.cells #[.bool true,.bool false,.bool false,.bool true] 165)).alloc (.cells #[.pointer (some ⟨wa.heap.size,1,none⟩),.pointer (some ⟨wa.heap.size,2,none⟩),.pointer (some ⟨wa.heap.size,3,none⟩)] 173)):=by
  have hb2:=HB2.out;have hb3:=HB3.out;have ha:Below wa.heap.size wa (wa.alloc (.cells #[.int .i64 o,.int .i64 0,.int .i64 0,.int .i64 0,.int .i64 0] 75)):=(Below.refl _ _).alloc (Nat.le_refl _) _;have hl:=hb3.size;rw[World.size_alloc]at hl;have hw:Below wb.heap.size wb ((wb.alloc (.cells #[.bool true,.bool false,.bool false,.bool true] 165)).alloc (.cells #[.pointer (some ⟨wa.heap.size,1,none⟩),.pointer (some ⟨wa.heap.size,2,none⟩),.pointer (some ⟨wa.heap.size,3,none⟩)] 173)):=((Below.refl _ _).alloc (Nat.le_refl _) _).alloc (by simp) _;refine⟨((HC0.out.below (Nat.lt_succ_self _) hb2).below (by omega) (ha.trans (hb3.mono (by rw[World.size_alloc];omega)))).below (by omega) hw,(Cls.below (Cls.made (cs:=[.int .i64 o,.int .i64 0,.int .i64 0,.int .i64 0,.int .i64 0]) (t:=75)) (by rw[World.size_alloc];omega) hb3).below (by omega) hw,Cls.below (Cls.made (cs:=[.bool true,.bool false,.bool false,.bool true]) (t:=165)) (Nat.lt_succ_self _) ((Below.refl _ _).alloc (by simp) _),?_,?_,by omega,by omega,by simp⟩
  ·have:=Cls.made (w:=wb.alloc (.cells #[.bool true,.bool false,.bool false,.bool true] 165)) (cs:=[.pointer (some ⟨wa.heap.size,1,none⟩),.pointer (some ⟨wa.heap.size,2,none⟩),.pointer (some ⟨wa.heap.size,3,none⟩)]) (t:=173);rwa[World.size_alloc]at this
  ·exact((BB.out.trans (hb2.mono (by omega))).trans (ha.mono (by omega))).trans ((hb3.mono (by rw[World.size_alloc];omega)).trans (hw.mono (by omega)))
 have HD:=hid HD0;clear HD0 HB2 HB3 HC0 BB;generalize((wb.alloc (.cells #[.bool true,.bool false,.bool false,.bool true] 165)).alloc (.cells #[.pointer (some ⟨wa.heap.size,1,none⟩),.pointer (some ⟨wa.heap.size,2,none⟩),.pointer (some ⟨wa.heap.size,3,none⟩)] 173))=WL at*
 generalize wa.heap.size=X at*
 generalize wb.heap.size=A at*
 go_loopw[11,12,40] (fun _ _ i wr=>(i= .int .i64 0∧DecW w X A [.int .i64 o,.int .i64 0,.int .i64 0,.int .i64 0,.int .i64 0] [.bool true,.bool false,.bool false,.bool true] wr)∨(i= .int .i64 1∧DecW w X A [.int .i64 o,.int .i64 d,.int .i64 0,.int .i64 0,.int .i64 0] [.bool true,.bool false,.bool false,.bool true] wr)∨(i= .int .i64 2∧DecW w X A [.int .i64 o,.int .i64 d,.int .i64 0,.int .i64 0,.int .i64 0] [.bool true,.bool false,.bool false,.bool true] wr)∨(i= .int .i64 3∧DecW w X A [.int .i64 o,.int .i64 d,.int .i64 0,.int .i64 0,.int .i64 0] [.bool true,.bool false,.bool false,.bool true] wr)) (fun _ _ i _=>3-(intOf i).toNat)
 case atStart=>exact .inl ⟨rfl,HD.out⟩
 case round=>
  clear HD;rcases hrel with⟨rfl,hD⟩|⟨rfl,hD⟩|⟨rfl,hD⟩|⟨rfl,hD⟩
  ·have HD:=hid hD;have n1':=hD.n1;have n2':=hD.n2;have n3':=hD.n3;have s0:=hD.sc.at 0 _ rfl;have a0:=hD.ac.at 0 _ rfl;have x0:=hD.xc.at 1 _ rfl;have xf:=hD.xc.at' 1 _ rfl;have hx1:¬X=wr.heap.size:=by omega
   have hx2:X<wr.heap.size:=by omega
   clear hD;exact A8b
  ·have HD:=hid hD;have n1':=hD.n1;have n2':=hD.n2;have n3':=hD.n3;have s0:=hD.sc.at 1 _ rfl;have a0:=hD.ac.at 1 _ rfl;have x0:=hD.xc.at 2 _ rfl;have xf:=hD.xc.at' 2 _ rfl;have hx1:¬X=wr.heap.size:=by omega
   have hx2:X<wr.heap.size:=by omega
   clear hD;go_wp2_with fail
   go_roundw
   case rel=>exact .inr (.inr (.inl ⟨rfl,HD.out⟩))
   case measure=>simp[intOf]
  ·have HD:=hid hD;have n1':=hD.n1;have n2':=hD.n2;have n3':=hD.n3;have s0:=hD.sc.at 2 _ rfl;have a0:=hD.ac.at 2 _ rfl;have x0:=hD.xc.at 3 _ rfl;have xf:=hD.xc.at' 3 _ rfl;have hx1:¬X=wr.heap.size:=by omega
   have hx2:X<wr.heap.size:=by omega
   clear hD;go_wp2_with fail
   go_roundw
   case rel=>exact .inr (.inr (.inr (⟨rfl,HD.out⟩)))
   case measure=>simp[intOf]
  ·have HKm:=hid hD;have t1:=hD.n1;have t2:=hD.n2;have t3:=hD.n3;clear hD;cases g:(C7 y==x)
   ·have g1:(C7 y !=x)=true:=by simp[bne,g]
    have HG:=hid g;obtain⟨E,hE⟩:∃E,C7 y=E:=⟨_,rfl⟩
    rw[hE]at CE g1 g;have HEE:=hid hE;clear hE;exact B4C
   ·have g1:(C7 y !=x)=false:=by simp[bne,g]
    have HG:=hid g;obtain⟨E,hE⟩:∃E,C7 y=E:=⟨_,rfl⟩
    rw[hE]at CE g1 g;have HEE:=hid hE;clear hE;go_wp2_with(first|(go_at_call 90;(with_reducible refine(CB0.out _).mono ?_);rintro e wk0 ⟨rfl,hdr⟩;have HK0:=hid (HKm.out.below (hdr.below _));clear hdr)|(go_at_call 90;(with_reducible refine(CB1.out _).mono ?_);rintro e wk1 ⟨rfl,hdr⟩;have HK1:=hid (HK0.out.below (hdr.below _));clear hdr)|(go_at_call 90;(with_reducible refine(CB2.out _).mono ?_);rintro e wk2 ⟨rfl,hdr⟩;have HK2:=hid (HK1.out.below (hdr.below _));clear hdr)|(go_at_call 90;(with_reducible refine(CB3.out _).mono ?_);rintro e wk3 ⟨rfl,hdr⟩;have HK3:=hid (HK2.out.below (hdr.below _));clear hdr;have z0:=HK3.out.xc.five.1.1;have z1:=HK3.out.xc.five.1.2.1;have z2:=HK3.out.xc.five.1.2.2.1;have z3:=HK3.out.xc.five.1.2.2.2.1;have z4:=HK3.out.xc.five.1.2.2.2.2;have zf:=HK3.out.xc.five.2.2.2.2.2)|(go_at_call 92;(with_reducible refine(CS.out _).mono ?_);rintro e wg ⟨rfl,rfl⟩)|(go_at_call 55;(with_reducible refine(CE.out _).mono ?_);rintro e we ⟨rfl,hbe⟩;have HE:=hid ((HK3.out.set (k:=4) (by simp) _).below hbe);clear hbe z0 z1 z2 z3 z4 zf;obtain⟨⟨z0,z1,z2,z3,z4⟩,y0,y1,y2,y3,y4⟩:=HE.out.xc.five;obtain⟨⟨c0,c1,c2,c3,c4⟩,f0,f1,f2,f3,f4⟩:=HE.out.r0.five;have m1:=HE.out.n1))
    refine bodyPost_ret (v:=.tuple #[.agg (#[.int .i64 o,.int .i64 d,.int .i64 0,.int .i64 0,.int .i64 I]),.bool true]) (Cls.res2 (cs:=[.int .i64 o,.int .i64 d,.int .i64 0,.int .i64 0,.int .i64 I]) (((((HE.out.r0.set (k:=0) (by simp[rvC]) _).set (k:=1) (by simp[rvC]) _).set (k:=2) (by simp[rvC]) _).set (k:=3) (by simp[rvC]) _).set (k:=4) (by simp[rvC]) _) rfl rfl rfl underlying75 rfl (by kernel_rfl)) rfl ⟨by rw[←HPV.out,if_pos (by have:=HG.out;simpa using this),HY.out];rfl,(A6 (A6 (A6 (A6 (A6 HE.out.bl (Nat.le_refl _) _ _) (Nat.le_refl _) _ _) (Nat.le_refl _) _ _) (Nat.le_refl _) _ _) (Nat.le_refl _) _ _)⟩
set_option maxHeartbeats 4000000 in
theorem A5L(x:Int)(x0:0≤x)(x1:x<4294967296)(r:Nat)(w:World)(hd:DecIs w r 39)(n1:(x==115)=false)(n2:(x==1048691)=false)(o:Int)(o0:38≤o)(o1:o≤38)(ho:opR (x%128) (x / 4096%8) (x / 33554432)=o):
  Calls prog 57 #[.map (some r),.int .u32 x] w fun e w'=>e= .returned (if C7 (fdR o x)=x then .tuple #[RvV (fdR o x),.bool true]else .tuple #[RvV rv0,.bool false])∧Below w.heap.size w w':=by
 have CF0:=M8 x x0 x1 r (w.alloc (.cells #[.int .i64 0,.int .i64 0,.int .i64 0,.int .i64 0,.int .i64 0] 75)) (MapIs.below hd ((Below.refl _ _).alloc (Nat.le_refl _) _));rw[ho]at CF0;have ef1:O0 o=o:=by unfold O0;rw[if_neg (by omega)]
 have ef2:fIs o=true:=by
  unfold fIs;have:(o==41)=false:=by simp;omega
  rw[this];rfl
 rw[ef1,ef2]at CF0;have CF:Hid (Calls prog 91 #[.map (some r),.int .u32 x] (w.alloc (.cells #[.int .i64 0,.int .i64 0,.int .i64 0,.int .i64 0,.int .i64 0] 75)) fun e w'=>e= .returned (.tuple #[.int .i64 o,.bool true])∧Below (w.heap.size+1) (w.alloc (.cells #[.int .i64 0,.int .i64 0,.int .i64 0,.int .i64 0,.int .i64 0] 75)) w'):=hid (CF0.mono fun e w' h=>⟨h.1,by have:=h.2;rwa[World.size_alloc]at this⟩);have HC0:Hid (Cls (w.alloc (.cells #[.int .i64 0,.int .i64 0,.int .i64 0,.int .i64 0,.int .i64 0] 75)) w.heap.size (rvC rv0)):=hid Cls.made;have BB:Hid (Below w.heap.size w (w.alloc (.cells #[.int .i64 0,.int .i64 0,.int .i64 0,.int .i64 0,.int .i64 0] 75))):=hid ((Below.refl _ _).alloc (Nat.le_refl _) _);have ef:fmR o=8:=A6s (by omega) (by omega);have C1:Hid (∀w,Calls prog 84 #[.int .i64 o] w fun e w'=>e= .returned (.int .i64 8)∧w=w'):=hid (fun w=>by rw[←ef];exact D9 o w);have C2:Hid (∀w,Calls prog 85 #[.int .i64 8] w fun e w'=>e= .returned (.agg #[.bool true,.bool true,.bool false,.bool true])∧Below w.heap.size w w'):=hid (fun w=>M5 8 (by decide) w);obtain⟨y,hy⟩:∃y,fdR o x=y:=⟨_,rfl⟩
 have C3:=hid (K9 y (by rw[←hy];exact Z7 x0 x1 (by omega)));rw[hy];obtain⟨PV,hPV⟩:∃V,(if C7 y=x then Value.tuple #[RvV y,.bool true]else .tuple #[RvV rv0,.bool false])=V:=⟨_,rfl⟩
 rw[hPV];have HPV:=hid hPV;clear hPV;obtain⟨d,hdd⟩:∃d,x / 128%32=d:=⟨_,rfl⟩
 obtain⟨a,haa⟩:∃d,x / 32768%32=d:=⟨_,rfl⟩
 obtain⟨b,hbb⟩:∃d,x / 1048576%32=d:=⟨_,rfl⟩
 obtain⟨I,hI⟩:∃d,imR 8 x=d:=⟨_,rfl⟩
 have HY:Hid (y=⟨o,d,a,0,I⟩):=hid (by subst hy hI hdd haa hbb;unfold fdR;rw[ef];rfl);have q0:bits .and .u32 (x / 128) 31=d:=by rw[←hdd];exact A9 5 (by omega) (by omega) (by decide) rfl
 have q1:bits .and .u32 (x / 32768) 31=a:=by rw[←haa];exact A9 5 (by omega) (by omega) (by decide) rfl
 have q2:bits .and .u32 (x / 1048576) 31=b:=by rw[←hbb];exact A9 5 (by omega) (by omega) (by decide) rfl
 have d01:0≤d∧d<32:=by omega
 have a01:0≤a∧a<32:=by omega
 have b01:0≤b∧b<32:=by omega
 have w0:IntKind.i64.wrap d=d:=by rw[IntWalk.i64_left];exact IntWalk.wrap64_in _ (by omega)
 have w1:IntKind.i64.wrap a=a:=by rw[IntWalk.i64_left];exact IntWalk.wrap64_in _ (by omega)
 have w2:IntKind.i64.wrap b=b:=by rw[IntWalk.i64_left];exact IntWalk.wrap64_in _ (by omega)
 have hN:x / 1048576=b+x / 33554432*32:=by omega
 have CS:Hid (∀w,Calls prog 92 #[.int .u32 (x / 1048576),.int .i64 12] w fun e w'=>e= .returned (.int .i64 I)∧w=w'):=hid (fun w=>by
  have h:=X6 (x / 1048576) (by omega) (by omega) w;rw[show sgR (x / 1048576) 2048=I by rw[←hI,hN,←hbb];rfl]at h;exact h)
 clear hN;have CE:Hid (∀w,Calls prog 55 #[.agg #[.int .i64 o,.int .i64 d,.int .i64 a,.int .i64 0,.int .i64 I]] w fun e w'=>e= .returned (.int .u32 (C7 y))∧Below w.heap.size w w'):=hid (fun w=>by
  have h:=C3.out w;rw[show RvV y= .agg #[.int .i64 o,.int .i64 d,.int .i64 a,.int .i64 0,.int .i64 I]by rw[HY.out];rfl]at h;exact h)
 clear C3;have HX:=hid (And.intro x0 x1);clear CF0 ef1 ef2 ho hd hy hdd haa hbb o0 o1 d01 a01 b01 ef hI x0 x1;exact q0z
end Go.Proofs.YtajljbmeaeeknaaGreat
