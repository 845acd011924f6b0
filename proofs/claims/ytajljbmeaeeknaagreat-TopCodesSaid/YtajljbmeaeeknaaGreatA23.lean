/- -/
import Derived.Test.YtajljbmeaeeknaaGreatA20
import Derived.Test.YtajljbmeaeeknaaGreatA22
open Go.Proofs.Tryz
open Go.Lib (hid)
set_option maxHeartbeats 1000000
set_option maxRecDepth 100000
namespace Go.Proofs.YtajljbmeaeeknaaGreat
open Go.RowKit
set_option linter.unusedVariables false
set_option linter.unusedSimpArgs false
theorem q2z{p:Prop}(h:p:=by
 refine wp_region_held_drew (S:=(fun wk=>∃c',MSt base T M mv x z fl c' wk)) (by kernel_rfl) ?_ (fun hHeld=>?_)
 ·(first|exact⟨_,by assumption⟩|exact⟨_,MSt.drew (by assumption)⟩)
 refine tk 0 ?_;refine tk 1 ?_;refine tk 2 ?_;refine tk 3 ?_;refine tk 4 ?_;refine tk 5 ?_;refine tk 6 ?_;refine tk 7 ?_;refine tk 8 ?_;refine tk 9 ?_;refine rd1 10 (fun K hK=>?_)
 (go_simp;first|((with_reducible refine(CA.out _ (HS.out.drewN _)).mono ?_);rintro e w2 ⟨rfl,hm1,hc1⟩)|((with_reducible refine(CS.out _ _ hm1).mono ?_);rintro e w3 ⟨rfl,hm2,hc2⟩))
 refine hK.out _ _ ?_ (fun hHeld=>?_)
 ·(first|exact⟨_,by assumption⟩|exact⟨_,MSt.drew (by assumption)⟩)
 clear hK K
 try go_frame
 refine rd1 11 (fun K hK=>?_)
 (go_simp;first|((with_reducible refine(CA.out _ (HS.out.drewN _)).mono ?_);rintro e w2 ⟨rfl,hm1,hc1⟩)|((with_reducible refine(CS.out _ _ hm1).mono ?_);rintro e w3 ⟨rfl,hm2,hc2⟩))
 refine hK.out _ _ ?_ (fun hHeld=>?_)
 ·(first|exact⟨_,by assumption⟩|exact⟨_,MSt.drew (by assumption)⟩)
 clear hK K
 try go_frame
 refine wpAnyH_done (by kernel_rfl) ?_ _;go_wp2_with fail
 exact bodyPost_end (v:=.tuple #[]) (by simp[results,results164,go_sem]) rfl ⟨rfl,hm2,(((Ch.refl _ _ _ _).drewN (n1+1)).trans hc1).trans hc2⟩
 ):p:=h
theorem B4E{p:Prop}(h:p:=by
 go_enter func164,ntmps164;go_upto_region 4 with((with_reducible refine(CG.out).mono ?_);rintro e w1 ⟨rfl,n1,rfl⟩;have hm0:=HS.out.drewN n1)
 refine wp_region_held_drew (S:=(fun wk=>∃c',MSt base T M mv x z fl c' wk)) (by kernel_rfl) ?_ (fun hHeld=>?_)
 ·(first|exact⟨_,by assumption⟩|exact⟨_,MSt.drew (by assumption)⟩)
 refine tk 0 ?_;refine tk 1 ?_;refine tk 2 ?_;refine tk 3 ?_;refine tk 4 ?_;refine tk 5 ?_;refine tk 6 ?_;refine tk 7 ?_;refine tk 8 ?_;refine rd1 9 (fun K hK=>?_)
 (go_simp;first|((with_reducible refine(CA.out _ (HS.out.drewN _)).mono ?_);rintro e w2 ⟨rfl,hm1,hc1⟩)|((with_reducible refine(CS.out _ _ hm1).mono ?_);rintro e w3 ⟨rfl,hm2,hc2⟩))
 refine hK.out _ _ ?_ (fun hHeld=>?_)
 ·(first|exact⟨_,by assumption⟩|exact⟨_,MSt.drew (by assumption)⟩)
 clear hK K
 try go_frame
 refine rd1 10 (fun K hK=>?_)
 (go_simp;first|((with_reducible refine(CA.out _ (HS.out.drewN _)).mono ?_);rintro e w2 ⟨rfl,hm1,hc1⟩)|((with_reducible refine(CS.out _ _ hm1).mono ?_);rintro e w3 ⟨rfl,hm2,hc2⟩))
 refine hK.out _ _ ?_ (fun hHeld=>?_)
 ·(first|exact⟨_,by assumption⟩|exact⟨_,MSt.drew (by assumption)⟩)
 clear hK K
 try go_frame
 refine wpAnyH_done (by kernel_rfl) ?_ _;go_wp2_with fail
 exact bodyPost_end (v:=.tuple #[]) (by simp[results,results164,go_sem]) rfl ⟨rfl,hm2,(((Ch.refl _ _ _ _).drewN (n1+1)).trans hc1).trans hc2⟩
 ):p:=h
theorem B4D{p:Prop}(h:p:=by
 go_enter func164,ntmps164;go_upto_region 7 with((with_reducible refine(CG.out).mono ?_);rintro e w1 ⟨rfl,n1,rfl⟩;have hm0:=HS.out.drewN n1)
 refine wp_region_held_drew (S:=(fun wk=>∃c',MSt base T M mv x z fl c' wk)) (by kernel_rfl) ?_ (fun hHeld=>?_)
 ·(first|exact⟨_,by assumption⟩|exact⟨_,MSt.drew (by assumption)⟩)
 refine tk 0 ?_;refine tk 1 ?_;refine tk 2 ?_;refine tk 3 ?_;refine tk 4 ?_;refine tk 5 ?_;refine tk 6 ?_;refine tk 7 ?_;refine tk 8 ?_;refine rd1 9 (fun K hK=>?_)
 (go_simp;first|((with_reducible refine(CA.out _ (HS.out.drewN _)).mono ?_);rintro e w2 ⟨rfl,hm1,hc1⟩)|((with_reducible refine(CS.out _ _ hm1).mono ?_);rintro e w3 ⟨rfl,hm2,hc2⟩))
 refine hK.out _ _ ?_ (fun hHeld=>?_)
 ·(first|exact⟨_,by assumption⟩|exact⟨_,MSt.drew (by assumption)⟩)
 clear hK K
 try go_frame
 refine rd1 10 (fun K hK=>?_)
 (go_simp;first|((with_reducible refine(CA.out _ (HS.out.drewN _)).mono ?_);rintro e w2 ⟨rfl,hm1,hc1⟩)|((with_reducible refine(CS.out _ _ hm1).mono ?_);rintro e w3 ⟨rfl,hm2,hc2⟩))
 refine hK.out _ _ ?_ (fun hHeld=>?_)
 ·(first|exact⟨_,by assumption⟩|exact⟨_,MSt.drew (by assumption)⟩)
 clear hK K
 try go_frame
 refine wpAnyH_done (by kernel_rfl) ?_ _;go_wp2_with fail
 exact bodyPost_end (v:=.tuple #[]) (by simp[results,results164,go_sem]) rfl ⟨rfl,hm2,(((Ch.refl _ _ _ _).drewN (n1+1)).trans hc1).trans hc2⟩
 ):p:=h
theorem B3i{p:Prop}(h:p:=by
 go_enter func164,ntmps164;go_wp2_with(first|((with_reducible refine(CG.out).mono ?_);rintro e w1 ⟨rfl,n1,rfl⟩;have hm0:=HS.out.drewN n1)|((with_reducible refine(CA.out _ (HS.out.drewN _)).mono ?_);rintro e w2 ⟨rfl,hm1,hc1⟩))
 exact bodyPost_end (v:=.tuple #[]) (by simp[results,results164,go_sem]) rfl ⟨rfl,hm1,((Ch.refl _ _ _ _).drewN n1).trans hc1⟩
 ):p:=h
def orW(a b:Int):Int:=((a.toNat|||b.toNat:Nat):Int)
def anW(a b:Int):Int:=((a.toNat&&&b.toNat:Nat):Int)
def xoW(a b:Int):Int:=((a.toNat^^^b.toNat:Nat):Int)
theorem A6Q{a b:Int}(a0:0≤a)(a1:a<4294967296)(b0:0≤b)(b1:b<4294967296):0≤orW a b∧orW a b<4294967296:=by
 have:=Nat.or_lt_two_pow (x:=a.toNat) (y:=b.toNat) (n:=32) (by omega) (by omega);unfold orW;omega
theorem A3n{a b:Int}(a0:0≤a)(a1:a<4294967296)(b0:0≤b)(b1:b<4294967296):0≤anW a b∧anW a b<4294967296:=by
 have:=Nat.and_lt_two_pow (x:=a.toNat) (y:=b.toNat) (n:=32) (by omega);unfold anW;omega
theorem A5e{a b:Int}(a0:0≤a)(a1:a<4294967296)(b0:0≤b)(b1:b<4294967296):0≤xoW a b∧xoW a b<4294967296:=by
 have:=Nat.xor_lt_two_pow (x:=a.toNat) (y:=b.toNat) (n:=32) (by omega) (by omega);unfold xoW;omega
section
variable {base T M : Nat} {mv : Value} {x : Ins} {z : Int} {fl : Bool} {c : Mac}
theorem B3F(d:Nat)(hd:d<32)(a b:Int)(w:World)(h:MSt base T M mv x z fl c w)(hxd:x.d=(d:Int))(ha:c.r.getD d 0%pwZ z=a)(b0:0≤b)(b1:b<4294967296):Calls prog 164 #[.pointer (some ⟨T,0,none⟩),.int .i64 7,.int .u32 b] w fun e w'=>e= .returned (.tuple #[])∧MSt base T M mv x z fl {c with r:=c.r.set d (wrR (c.r.getD d 0) (adN a b z) z),f:=rsF (adN a b z) z (adO a b z)} w'∧Ch T M mv w w':=by
 have hpw:=D8 h.zz;have a0:0≤a:=by rw[←ha];exact Int.emod_nonneg _ (by omega)
 have a1:a<4294967296:=by rw[←ha];have:=Int.emod_lt_of_pos (c.r.getD d 0) hpw.1;omega
 have x1:=h.xd;rw[hxd]at x1;have hT:=h.ltT;have CG:=hid (H8 d hd w h);rw[ha]at CG;have HS:=hid h;have hnb:=A3p (a:=a) (b:=b) h.zz;have CA:=hid (fun wk (hk:MSt base T M mv x z fl c wk)=>A4F a b wk hk a0 a1 b0 b1);have hn2:adN a b z<4294967296:=by omega
 have CS:=hid (fun(c':Mac) wk (hk:MSt base T M mv x z fl c' wk)=>I2 d hd (adN a b z) wk hk hnb.1 hn2);have xds:∀wk,(∃c',MSt base T M mv x z fl c' wk)→wk.cell? ⟨T,2,none⟩=some (.int .i64 (d:Int)):=fun wk ⟨c',h'⟩=>by have:=h'.xd;rw[hxd]at this;exact this
 have lts:∀wk,(∃c',MSt base T M mv x z fl c' wk)→T<wk.heap.size:=fun wk ⟨c',h'⟩=>h'.ltT
 generalize adN a b z=n at*
 generalize adO a b z=o at*
 clear h hpw hnb hn2 ha a0 a1 hxd;exact B4E
theorem B3E(d:Nat)(hd:d<32)(a b:Int)(w:World)(h:MSt base T M mv x z fl c w)(hxd:x.d=(d:Int))(ha:c.r.getD d 0%pwZ z=a)(b0:0≤b)(b1:b<4294967296):Calls prog 164 #[.pointer (some ⟨T,0,none⟩),.int .i64 8,.int .u32 b] w fun e w'=>e= .returned (.tuple #[])∧MSt base T M mv x z fl {c with r:=c.r.set d (wrR (c.r.getD d 0) (orW a b) z),f:=rsF (orW a b) z 0} w'∧Ch T M mv w w':=by
 have hpw:=D8 h.zz;have a0:0≤a:=by rw[←ha];exact Int.emod_nonneg _ (by omega)
 have a1:a<4294967296:=by rw[←ha];have:=Int.emod_lt_of_pos (c.r.getD d 0) hpw.1;omega
 have x1:=h.xd;rw[hxd]at x1;have hT:=h.ltT;have CG:=hid (H8 d hd w h);rw[ha]at CG;have HS:=hid h;have hnb:=A6Q a0 a1 b0 b1;have hbit:bits .or .u32 a b=orW a b:=u32_or a b a0 a1 b0 b1;have CA:=hid (fun wk (hk:MSt base T M mv x z fl c wk)=>P6 (orW a b) wk hk hnb.1 hnb.2);have hn2:orW a b<4294967296:=by omega
 have CS:=hid (fun(c':Mac) wk (hk:MSt base T M mv x z fl c' wk)=>I2 d hd (orW a b) wk hk hnb.1 hn2);have xds:∀wk,(∃c',MSt base T M mv x z fl c' wk)→wk.cell? ⟨T,2,none⟩=some (.int .i64 (d:Int)):=fun wk ⟨c',h'⟩=>by have:=h'.xd;rw[hxd]at this;exact this
 have lts:∀wk,(∃c',MSt base T M mv x z fl c' wk)→T<wk.heap.size:=fun wk ⟨c',h'⟩=>h'.ltT
 generalize orW a b=n at*
 clear h hpw hnb hn2 ha a0 a1 hxd;go_enter func164,ntmps164;go_upto_region 13 with((with_reducible refine(CG.out).mono ?_);rintro e w1 ⟨rfl,n1,rfl⟩;have hm0:=HS.out.drewN n1)
 exact q2z
theorem B3D(d:Nat)(hd:d<32)(a b:Int)(w:World)(h:MSt base T M mv x z fl c w)(hxd:x.d=(d:Int))(ha:c.r.getD d 0%pwZ z=a)(b0:0≤b)(b1:b<4294967296):Calls prog 164 #[.pointer (some ⟨T,0,none⟩),.int .i64 9,.int .u32 b] w fun e w'=>e= .returned (.tuple #[])∧MSt base T M mv x z fl {c with r:=c.r.set d (wrR (c.r.getD d 0) (anW a b) z),f:=rsF (anW a b) z 0} w'∧Ch T M mv w w':=by
 have hpw:=D8 h.zz;have a0:0≤a:=by rw[←ha];exact Int.emod_nonneg _ (by omega)
 have a1:a<4294967296:=by rw[←ha];have:=Int.emod_lt_of_pos (c.r.getD d 0) hpw.1;omega
 have x1:=h.xd;rw[hxd]at x1;have hT:=h.ltT;have CG:=hid (H8 d hd w h);rw[ha]at CG;have HS:=hid h;have hnb:=A3n a0 a1 b0 b1;have hbit:bits .and .u32 a b=anW a b:=u32_and a b a0 a1 b0 b1;have CA:=hid (fun wk (hk:MSt base T M mv x z fl c wk)=>P6 (anW a b) wk hk hnb.1 hnb.2);have hn2:anW a b<4294967296:=by omega
 have CS:=hid (fun(c':Mac) wk (hk:MSt base T M mv x z fl c' wk)=>I2 d hd (anW a b) wk hk hnb.1 hn2);have xds:∀wk,(∃c',MSt base T M mv x z fl c' wk)→wk.cell? ⟨T,2,none⟩=some (.int .i64 (d:Int)):=fun wk ⟨c',h'⟩=>by have:=h'.xd;rw[hxd]at this;exact this
 have lts:∀wk,(∃c',MSt base T M mv x z fl c' wk)→T<wk.heap.size:=fun wk ⟨c',h'⟩=>h'.ltT
 generalize anW a b=n at*
 clear h hpw hnb hn2 ha a0 a1 hxd;go_enter func164,ntmps164;go_upto_region 16 with((with_reducible refine(CG.out).mono ?_);rintro e w1 ⟨rfl,n1,rfl⟩;have hm0:=HS.out.drewN n1)
 exact q2z
theorem B0t(d:Nat)(hd:d<32)(a b:Int)(w:World)(h:MSt base T M mv x z fl c w)(hxd:x.d=(d:Int))(ha:c.r.getD d 0%pwZ z=a)(b0:0≤b)(b1:b<4294967296):Calls prog 164 #[.pointer (some ⟨T,0,none⟩),.int .i64 10,.int .u32 b] w fun e w'=>e= .returned (.tuple #[])∧MSt base T M mv x z fl {c with r:=c.r.set d (wrR (c.r.getD d 0) (suN a b z) z),f:=rsF (suN a b z) z (suO a b z)} w'∧Ch T M mv w w':=by
 have hpw:=D8 h.zz;have a0:0≤a:=by rw[←ha];exact Int.emod_nonneg _ (by omega)
 have a1:a<4294967296:=by rw[←ha];have:=Int.emod_lt_of_pos (c.r.getD d 0) hpw.1;omega
 have x1:=h.xd;rw[hxd]at x1;have hT:=h.ltT;have CG:=hid (H8 d hd w h);rw[ha]at CG;have HS:=hid h;have hnb:=n9 (a:=a) (b:=b) h.zz;have CA:=hid (fun wk (hk:MSt base T M mv x z fl c wk)=>g8 a b wk hk a0 a1 b0 b1);have hn2:suN a b z<4294967296:=by omega
 have CS:=hid (fun(c':Mac) wk (hk:MSt base T M mv x z fl c' wk)=>I2 d hd (suN a b z) wk hk hnb.1 hn2);have xds:∀wk,(∃c',MSt base T M mv x z fl c' wk)→wk.cell? ⟨T,2,none⟩=some (.int .i64 (d:Int)):=fun wk ⟨c',h'⟩=>by have:=h'.xd;rw[hxd]at this;exact this
 have lts:∀wk,(∃c',MSt base T M mv x z fl c' wk)→T<wk.heap.size:=fun wk ⟨c',h'⟩=>h'.ltT
 generalize suN a b z=n at*
 generalize suO a b z=o at*
 clear h hpw hnb hn2 ha a0 a1 hxd;exact B4D
theorem B0s(d:Nat)(hd:d<32)(a b:Int)(w:World)(h:MSt base T M mv x z fl c w)(hxd:x.d=(d:Int))(ha:c.r.getD d 0%pwZ z=a)(b0:0≤b)(b1:b<4294967296):Calls prog 164 #[.pointer (some ⟨T,0,none⟩),.int .i64 11,.int .u32 b] w fun e w'=>e= .returned (.tuple #[])∧MSt base T M mv x z fl {c with r:=c.r.set d (wrR (c.r.getD d 0) (xoW a b) z),f:=rsF (xoW a b) z 0} w'∧Ch T M mv w w':=by
 have hpw:=D8 h.zz;have a0:0≤a:=by rw[←ha];exact Int.emod_nonneg _ (by omega)
 have a1:a<4294967296:=by rw[←ha];have:=Int.emod_lt_of_pos (c.r.getD d 0) hpw.1;omega
 have x1:=h.xd;rw[hxd]at x1;have hT:=h.ltT;have CG:=hid (H8 d hd w h);rw[ha]at CG;have HS:=hid h;have hnb:=A5e a0 a1 b0 b1;have hbit:bits .xor .u32 a b=xoW a b:=u32_xor a b a0 a1 b0 b1;have CA:=hid (fun wk (hk:MSt base T M mv x z fl c wk)=>P6 (xoW a b) wk hk hnb.1 hnb.2);have hn2:xoW a b<4294967296:=by omega
 have CS:=hid (fun(c':Mac) wk (hk:MSt base T M mv x z fl c' wk)=>I2 d hd (xoW a b) wk hk hnb.1 hn2);have xds:∀wk,(∃c',MSt base T M mv x z fl c' wk)→wk.cell? ⟨T,2,none⟩=some (.int .i64 (d:Int)):=fun wk ⟨c',h'⟩=>by have:=h'.xd;rw[hxd]at this;exact this
 have lts:∀wk,(∃c',MSt base T M mv x z fl c' wk)→T<wk.heap.size:=fun wk ⟨c',h'⟩=>h'.ltT
 generalize xoW a b=n at*
 clear h hpw hnb hn2 ha a0 a1 hxd;go_enter func164,ntmps164;go_upto_region 19 with((with_reducible refine(CG.out).mono ?_);rintro e w1 ⟨rfl,n1,rfl⟩;have hm0:=HS.out.drewN n1)
 exact q2z
theorem B0r(d:Nat)(hd:d<32)(a b:Int)(w:World)(h:MSt base T M mv x z fl c w)(hxd:x.d=(d:Int))(ha:c.r.getD d 0%pwZ z=a)(b0:0≤b)(b1:b<4294967296):Calls prog 164 #[.pointer (some ⟨T,0,none⟩),.int .i64 12,.int .u32 b] w fun e w'=>e= .returned (.tuple #[])∧MSt base T M mv x z fl {c with f:=rsF (suN a b z) z (suO a b z)} w'∧Ch T M mv w w':=by
 have hpw:=D8 h.zz;have a0:0≤a:=by rw[←ha];exact Int.emod_nonneg _ (by omega)
 have a1:a<4294967296:=by rw[←ha];have:=Int.emod_lt_of_pos (c.r.getD d 0) hpw.1;omega
 have x1:=h.xd;rw[hxd]at x1;have hT:=h.ltT;have CG:=hid (H8 d hd w h);rw[ha]at CG;have HS:=hid h;have hnb:=n9 (a:=a) (b:=b) h.zz;have CA:=hid (fun wk (hk:MSt base T M mv x z fl c wk)=>g8 a b wk hk a0 a1 b0 b1);have hn2:suN a b z<4294967296:=by omega
 generalize suN a b z=n at*
 generalize suO a b z=o at*
 clear h hpw hnb hn2 ha a0 a1 hxd;exact B3i
theorem B0q(d:Nat)(hd:d<32)(a b:Int)(w:World)(h:MSt base T M mv x z fl c w)(hxd:x.d=(d:Int))(ha:c.r.getD d 0%pwZ z=a)(b0:0≤b)(b1:b<4294967296):Calls prog 164 #[.pointer (some ⟨T,0,none⟩),.int .i64 13,.int .u32 b] w fun e w'=>e= .returned (.tuple #[])∧MSt base T M mv x z fl {c with f:=rsF (anW a b) z 0} w'∧Ch T M mv w w':=by
 have hpw:=D8 h.zz;have a0:0≤a:=by rw[←ha];exact Int.emod_nonneg _ (by omega)
 have a1:a<4294967296:=by rw[←ha];have:=Int.emod_lt_of_pos (c.r.getD d 0) hpw.1;omega
 have x1:=h.xd;rw[hxd]at x1;have hT:=h.ltT;have CG:=hid (H8 d hd w h);rw[ha]at CG;have HS:=hid h;have hnb:=A3n a0 a1 b0 b1;have hbit:bits .and .u32 a b=anW a b:=u32_and a b a0 a1 b0 b1;have CA:=hid (fun wk (hk:MSt base T M mv x z fl c wk)=>P6 (anW a b) wk hk hnb.1 hnb.2);have hn2:anW a b<4294967296:=by omega
 generalize anW a b=n at*
 clear h hpw hnb hn2 ha a0 a1 hxd;go_enter func164,ntmps164;go_wp2_with(first|((with_reducible refine(CG.out).mono ?_);rintro e w1 ⟨rfl,n1,rfl⟩;have hm0:=HS.out.drewN n1)|((with_reducible refine(CA.out _ (HS.out.drewN _)).mono ?_);rintro e w2 ⟨rfl,hm1,hc1⟩))
 exact bodyPost_end (v:=.tuple #[]) (by simp[results,results164,go_sem]) rfl ⟨rfl,hm1,((Ch.refl _ _ _ _).drewN n1).trans hc1⟩
theorem B0p(d:Nat)(hd:d<32)(a b:Int)(w:World)(h:MSt base T M mv x z fl c w)(hxd:x.d=(d:Int))(ha:c.r.getD d 0%pwZ z=a)(b0:0≤b)(b1:b<4294967296):Calls prog 164 #[.pointer (some ⟨T,0,none⟩),.int .i64 14,.int .u32 b] w fun e w'=>e= .returned (.tuple #[])∧MSt base T M mv x z fl {c with r:=c.r.set d (wrR (c.r.getD d 0) (adN a b z) z),f:=rsF (adN a b z) z (adO a b z)} w'∧Ch T M mv w w':=by
 have hpw:=D8 h.zz;have a0:0≤a:=by rw[←ha];exact Int.emod_nonneg _ (by omega)
 have a1:a<4294967296:=by rw[←ha];have:=Int.emod_lt_of_pos (c.r.getD d 0) hpw.1;omega
 have x1:=h.xd;rw[hxd]at x1;have hT:=h.ltT;have CG:=hid (H8 d hd w h);rw[ha]at CG;have HS:=hid h;have hnb:=A3p (a:=a) (b:=b) h.zz;have CA:=hid (fun wk (hk:MSt base T M mv x z fl c wk)=>A4F a b wk hk a0 a1 b0 b1);have hn2:adN a b z<4294967296:=by omega
 have CS:=hid (fun(c':Mac) wk (hk:MSt base T M mv x z fl c' wk)=>I2 d hd (adN a b z) wk hk hnb.1 hn2);have xds:∀wk,(∃c',MSt base T M mv x z fl c' wk)→wk.cell? ⟨T,2,none⟩=some (.int .i64 (d:Int)):=fun wk ⟨c',h'⟩=>by have:=h'.xd;rw[hxd]at this;exact this
 have lts:∀wk,(∃c',MSt base T M mv x z fl c' wk)→T<wk.heap.size:=fun wk ⟨c',h'⟩=>h'.ltT
 generalize adN a b z=n at*
 generalize adO a b z=o at*
 clear h hpw hnb hn2 ha a0 a1 hxd;exact B4E
theorem B0o(d:Nat)(hd:d<32)(a b:Int)(w:World)(h:MSt base T M mv x z fl c w)(hxd:x.d=(d:Int))(ha:c.r.getD d 0%pwZ z=a)(b0:0≤b)(b1:b<4294967296):Calls prog 164 #[.pointer (some ⟨T,0,none⟩),.int .i64 15,.int .u32 b] w fun e w'=>e= .returned (.tuple #[])∧MSt base T M mv x z fl {c with r:=c.r.set d (wrR (c.r.getD d 0) (orW a b) z),f:=rsF (orW a b) z 0} w'∧Ch T M mv w w':=by
 have hpw:=D8 h.zz;have a0:0≤a:=by rw[←ha];exact Int.emod_nonneg _ (by omega)
 have a1:a<4294967296:=by rw[←ha];have:=Int.emod_lt_of_pos (c.r.getD d 0) hpw.1;omega
 have x1:=h.xd;rw[hxd]at x1;have hT:=h.ltT;have CG:=hid (H8 d hd w h);rw[ha]at CG;have HS:=hid h;have hnb:=A6Q a0 a1 b0 b1;have hbit:bits .or .u32 a b=orW a b:=u32_or a b a0 a1 b0 b1;have CA:=hid (fun wk (hk:MSt base T M mv x z fl c wk)=>P6 (orW a b) wk hk hnb.1 hnb.2);have hn2:orW a b<4294967296:=by omega
 have CS:=hid (fun(c':Mac) wk (hk:MSt base T M mv x z fl c' wk)=>I2 d hd (orW a b) wk hk hnb.1 hn2);have xds:∀wk,(∃c',MSt base T M mv x z fl c' wk)→wk.cell? ⟨T,2,none⟩=some (.int .i64 (d:Int)):=fun wk ⟨c',h'⟩=>by have:=h'.xd;rw[hxd]at this;exact this
 have lts:∀wk,(∃c',MSt base T M mv x z fl c' wk)→T<wk.heap.size:=fun wk ⟨c',h'⟩=>h'.ltT
 generalize orW a b=n at*
 clear h hpw hnb hn2 ha a0 a1 hxd;go_enter func164,ntmps164;go_upto_region 13 with((with_reducible refine(CG.out).mono ?_);rintro e w1 ⟨rfl,n1,rfl⟩;have hm0:=HS.out.drewN n1)
 exact q2z
theorem B0n(d:Nat)(hd:d<32)(a b:Int)(w:World)(h:MSt base T M mv x z fl c w)(hxd:x.d=(d:Int))(ha:c.r.getD d 0%pwZ z=a)(b0:0≤b)(b1:b<4294967296):Calls prog 164 #[.pointer (some ⟨T,0,none⟩),.int .i64 16,.int .u32 b] w fun e w'=>e= .returned (.tuple #[])∧MSt base T M mv x z fl {c with r:=c.r.set d (wrR (c.r.getD d 0) (anW a b) z),f:=rsF (anW a b) z 0} w'∧Ch T M mv w w':=by
 have hpw:=D8 h.zz;have a0:0≤a:=by rw[←ha];exact Int.emod_nonneg _ (by omega)
 have a1:a<4294967296:=by rw[←ha];have:=Int.emod_lt_of_pos (c.r.getD d 0) hpw.1;omega
 have x1:=h.xd;rw[hxd]at x1;have hT:=h.ltT;have CG:=hid (H8 d hd w h);rw[ha]at CG;have HS:=hid h;have hnb:=A3n a0 a1 b0 b1;have hbit:bits .and .u32 a b=anW a b:=u32_and a b a0 a1 b0 b1;have CA:=hid (fun wk (hk:MSt base T M mv x z fl c wk)=>P6 (anW a b) wk hk hnb.1 hnb.2);have hn2:anW a b<4294967296:=by omega
 have CS:=hid (fun(c':Mac) wk (hk:MSt base T M mv x z fl c' wk)=>I2 d hd (anW a b) wk hk hnb.1 hn2);have xds:∀wk,(∃c',MSt base T M mv x z fl c' wk)→wk.cell? ⟨T,2,none⟩=some (.int .i64 (d:Int)):=fun wk ⟨c',h'⟩=>by have:=h'.xd;rw[hxd]at this;exact this
 have lts:∀wk,(∃c',MSt base T M mv x z fl c' wk)→T<wk.heap.size:=fun wk ⟨c',h'⟩=>h'.ltT
 generalize anW a b=n at*
 clear h hpw hnb hn2 ha a0 a1 hxd;go_enter func164,ntmps164;go_upto_region 16 with((with_reducible refine(CG.out).mono ?_);rintro e w1 ⟨rfl,n1,rfl⟩;have hm0:=HS.out.drewN n1)
 exact q2z
theorem B0m(d:Nat)(hd:d<32)(a b:Int)(w:World)(h:MSt base T M mv x z fl c w)(hxd:x.d=(d:Int))(ha:c.r.getD d 0%pwZ z=a)(b0:0≤b)(b1:b<4294967296):Calls prog 164 #[.pointer (some ⟨T,0,none⟩),.int .i64 17,.int .u32 b] w fun e w'=>e= .returned (.tuple #[])∧MSt base T M mv x z fl {c with r:=c.r.set d (wrR (c.r.getD d 0) (suN a b z) z),f:=rsF (suN a b z) z (suO a b z)} w'∧Ch T M mv w w':=by
 have hpw:=D8 h.zz;have a0:0≤a:=by rw[←ha];exact Int.emod_nonneg _ (by omega)
 have a1:a<4294967296:=by rw[←ha];have:=Int.emod_lt_of_pos (c.r.getD d 0) hpw.1;omega
 have x1:=h.xd;rw[hxd]at x1;have hT:=h.ltT;have CG:=hid (H8 d hd w h);rw[ha]at CG;have HS:=hid h;have hnb:=n9 (a:=a) (b:=b) h.zz;have CA:=hid (fun wk (hk:MSt base T M mv x z fl c wk)=>g8 a b wk hk a0 a1 b0 b1);have hn2:suN a b z<4294967296:=by omega
 have CS:=hid (fun(c':Mac) wk (hk:MSt base T M mv x z fl c' wk)=>I2 d hd (suN a b z) wk hk hnb.1 hn2);have xds:∀wk,(∃c',MSt base T M mv x z fl c' wk)→wk.cell? ⟨T,2,none⟩=some (.int .i64 (d:Int)):=fun wk ⟨c',h'⟩=>by have:=h'.xd;rw[hxd]at this;exact this
 have lts:∀wk,(∃c',MSt base T M mv x z fl c' wk)→T<wk.heap.size:=fun wk ⟨c',h'⟩=>h'.ltT
 generalize suN a b z=n at*
 generalize suO a b z=o at*
 clear h hpw hnb hn2 ha a0 a1 hxd;exact B4D
theorem B0l(d:Nat)(hd:d<32)(a b:Int)(w:World)(h:MSt base T M mv x z fl c w)(hxd:x.d=(d:Int))(ha:c.r.getD d 0%pwZ z=a)(b0:0≤b)(b1:b<4294967296):Calls prog 164 #[.pointer (some ⟨T,0,none⟩),.int .i64 18,.int .u32 b] w fun e w'=>e= .returned (.tuple #[])∧MSt base T M mv x z fl {c with r:=c.r.set d (wrR (c.r.getD d 0) (xoW a b) z),f:=rsF (xoW a b) z 0} w'∧Ch T M mv w w':=by
 have hpw:=D8 h.zz;have a0:0≤a:=by rw[←ha];exact Int.emod_nonneg _ (by omega)
 have a1:a<4294967296:=by rw[←ha];have:=Int.emod_lt_of_pos (c.r.getD d 0) hpw.1;omega
 have x1:=h.xd;rw[hxd]at x1;have hT:=h.ltT;have CG:=hid (H8 d hd w h);rw[ha]at CG;have HS:=hid h;have hnb:=A5e a0 a1 b0 b1;have hbit:bits .xor .u32 a b=xoW a b:=u32_xor a b a0 a1 b0 b1;have CA:=hid (fun wk (hk:MSt base T M mv x z fl c wk)=>P6 (xoW a b) wk hk hnb.1 hnb.2);have hn2:xoW a b<4294967296:=by omega
 have CS:=hid (fun(c':Mac) wk (hk:MSt base T M mv x z fl c' wk)=>I2 d hd (xoW a b) wk hk hnb.1 hn2);have xds:∀wk,(∃c',MSt base T M mv x z fl c' wk)→wk.cell? ⟨T,2,none⟩=some (.int .i64 (d:Int)):=fun wk ⟨c',h'⟩=>by have:=h'.xd;rw[hxd]at this;exact this
 have lts:∀wk,(∃c',MSt base T M mv x z fl c' wk)→T<wk.heap.size:=fun wk ⟨c',h'⟩=>h'.ltT
 generalize xoW a b=n at*
 clear h hpw hnb hn2 ha a0 a1 hxd;go_enter func164,ntmps164;go_upto_region 19 with((with_reducible refine(CG.out).mono ?_);rintro e w1 ⟨rfl,n1,rfl⟩;have hm0:=HS.out.drewN n1)
 exact q2z
theorem B0k(d:Nat)(hd:d<32)(a b:Int)(w:World)(h:MSt base T M mv x z fl c w)(hxd:x.d=(d:Int))(ha:c.r.getD d 0%pwZ z=a)(b0:0≤b)(b1:b<4294967296):Calls prog 164 #[.pointer (some ⟨T,0,none⟩),.int .i64 19,.int .u32 b] w fun e w'=>e= .returned (.tuple #[])∧MSt base T M mv x z fl {c with f:=rsF (suN a b z) z (suO a b z)} w'∧Ch T M mv w w':=by
 have hpw:=D8 h.zz;have a0:0≤a:=by rw[←ha];exact Int.emod_nonneg _ (by omega)
 have a1:a<4294967296:=by rw[←ha];have:=Int.emod_lt_of_pos (c.r.getD d 0) hpw.1;omega
 have x1:=h.xd;rw[hxd]at x1;have hT:=h.ltT;have CG:=hid (H8 d hd w h);rw[ha]at CG;have HS:=hid h;have hnb:=n9 (a:=a) (b:=b) h.zz;have CA:=hid (fun wk (hk:MSt base T M mv x z fl c wk)=>g8 a b wk hk a0 a1 b0 b1);have hn2:suN a b z<4294967296:=by omega
 generalize suN a b z=n at*
 generalize suO a b z=o at*
 clear h hpw hnb hn2 ha a0 a1 hxd;exact B3i
end
end Go.Proofs.YtajljbmeaeeknaaGreat
namespace Go.Proofs.YtajljbmeaeeknaaGreat
open Go.RowKit
set_option linter.unusedVariables false
set_option linter.unusedSimpArgs false
theorem A8e{p:Prop}(h:p:=by
 go_wp2_with((with_reducible first|refine(CH.out).mono ?_|refine(CF.out).mono ?_);rintro e w' ⟨rfl,rfl⟩)
 go_roundw
 case rel=>exact⟨j+1,by omega,by rw[HS.out,HN.out];first|rfl|simp,by rw[HS.out,HN.out],by go_num,by first|rfl|trivial⟩
 case measure=>simp[intOf];omega
 ):p:=h
theorem B1Z{p:Prop}(h:p:=by
 go_wp2_with(first|((with_reducible refine(CS.out).mono ?_);rintro e w2 ⟨rfl,hm2,hc2⟩)|((with_reducible refine(CF1.out _).mono ?_);rintro e w' ⟨rfl,rfl⟩)|((with_reducible refine(CR.out _ _ hm2).mono ?_);rintro e w3 ⟨rfl,hm3,hc3⟩))
 exact bodyPost_end (v:=.tuple #[]) (by simp[results,results166,go_sem]) rfl ⟨rfl,hm3,(((Ch.refl _ _ _ _).drewN n1).trans hc2).trans hc3⟩
 ):p:=h
theorem B1O{p:Prop}(h:p:=by
 subst hk0;rw[if_pos rfl];go_enter func166,ntmps166;go_wp2_with((with_reducible refine(CG.out).mono ?_);rintro e w1 ⟨rfl,n1,rfl⟩)
 exact bodyPost_ret (v:=.tuple #[]) (by simp[results,results166,go_sem]) rfl ⟨rfl,H0.out.drewN _,(Ch.refl _ _ _ _).drewN _⟩
 ):p:=h
theorem A6N{p:Prop}(h:p:=by
 unfold shM;rw[hk2,Int.toNat_natCast];by_cases e:k=0
 ·rw[if_pos e,if_pos (by omega)]
 ·rw[if_neg e,if_neg (by omega)]
 ):p:=h
def A0M(op z n:Int):Int×Bool:=
 if op=21 then((2*n)%pwZ z,hiB n z)else if op=22 then(n / 2,n%2==1)else(n / 2+(if hiB n z=true then pwZ z / 2 else 0),n%2==1)
def shN(op z a:Int):Nat→Int×Bool
 |0=>(a,false)
 |k+1=>A0M op z (shN op z a k).1
theorem A8W{op z n:Int}(hz:z=16∨z=32)(h0:0≤n)(h1:n<pwZ z):0≤(A0M op z n).1∧(A0M op z n).1<pwZ z:=by
 have hp:=(D8 hz).1;have he:pwZ z=2*(pwZ z / 2):=by rcases hz with rfl|rfl<;>decide
 unfold A0M
 split
 ·exact⟨Int.emod_nonneg _ (by omega),Int.emod_lt_of_pos _ hp⟩
 ·split
  ·simp only;omega
  ·simp only;split<;>omega
theorem A2z{op z a:Int}(hz:z=16∨z=32)(h0:0≤a)(h1:a<pwZ z)(k:Nat):0≤(shN op z a k).1∧(shN op z a k).1<pwZ z:=by
 induction k with
 |zero=>exact⟨h0,h1⟩
 |succ k ih=>exact A8W hz ih.1 ih.2
theorem A8U(n z:Int)(hz:z=16∨z=32):bits .and .u32 (n*2%4294967296) (pwZ z-1)=(2*n)%pwZ z:=by
 have:=Z8 (n*2) z hz;rw[IntKind.wrap_u32]at this;rw[this,Int.mul_comm]
theorem A6J{n z:Int}(hz:z=16∨z=32)(h0:0≤n)(h1:n<pwZ z)(b:Bool):bits .or .u32 (n / 2) (if b=true then pwZ z / 2 else 0)=n / 2+(if b=true then pwZ z / 2 else 0):=by
 obtain⟨m,rfl⟩:=Int.eq_ofNat_of_zero_le h0;rw[show(m:Int) / 2=((m / 2:Nat):Int)by omega];cases b
 ·have:=u32_or_nat (m / 2) 0 (by have:=(D8 hz).2.1;omega) (by decide);simpa using this
 ·rcases hz with rfl|rfl
  ·have h1':(m:Int)<65536:=h1;have:=u32_or_nat (m / 2) 32768 (by omega) (by decide);rw[Nat.or_comm,nat_join 15 32768 (m / 2) (by decide) (by omega)]at this;show bits .or .u32 ((m / 2:Nat):Int) 32768=((m / 2:Nat):Int)+32768
   rw[show((32768:Nat):Int)=32768 from rfl]at this;rw[this];omega
  ·have h1':(m:Int)<4294967296:=h1;have:=u32_or_nat (m / 2) 2147483648 (by omega) (by decide);rw[Nat.or_comm,nat_join 31 2147483648 (m / 2) (by decide) (by omega)]at this;show bits .or .u32 ((m / 2:Nat):Int) 2147483648=((m / 2:Nat):Int)+2147483648
   rw[show((2147483648:Nat):Int)=2147483648 from rfl]at this;rw[this];omega
def shM(op z:Int)(d:Nat)(c:Mac):Mac:=
 if(c.r.getD 1 0)%32=0 then c else{c with
  r:=c.r.set d (wrR (c.r.getD d 0) (shN op z (c.r.getD d 0%pwZ z) ((c.r.getD 1 0)%32).toNat).1 z)
  f:=rsF (shN op z (c.r.getD d 0%pwZ z) ((c.r.getD 1 0)%32).toNat).1 z (if(shN op z (c.r.getD d 0%pwZ z) ((c.r.getD 1 0)%32).toNat).2=true then 1 else 0)}
section
variable {base T M : Nat} {mv : Value} {x : Ins} {z : Int} {fl : Bool} {c : Mac}
theorem A6C(d:Nat)(hd:d<32)(w:World)(h:MSt base T M mv x z fl c w)(hxd:x.d=(d:Int))(hxo:x.o=21):Calls prog 166 #[.pointer (some ⟨T,0,none⟩)] w fun e w'=>e= .returned (.tuple #[])∧MSt base T M mv x z fl (shM 21 z d c) w'∧Ch T M mv w w':=by
 have hpw:=D8 h.zz;have HZ:=hid h.zz;have HPW:=hid hpw;have x1:=h.xd;rw[hxd]at x1;have x0:=h.xo;rw[hxo]at x0;have hp:=h.ptr;have hsz:=h.sz;have hT:=h.ltT;have hM:=h.ltM;have hr1:=(h.reg (d:=1) (by decide)).1;have hb1:=h.rb 1;have CG:=hid (H8 d hd w h);have H0:=hid h;have HQ:Hid (∀c',c'=shM 21 z d c→MSt base T M mv x z fl c'=MSt base T M mv x z fl (shM 21 z d c)):=fun c' e=>by rw[e]
 have hand:=R1 (c.r.getD 1 0).toNat 5 (by omega) (by decide);rw[show(((c.r.getD 1 0).toNat:Nat):Int)=c.r.getD 1 0 by omega]at hand;have hand2:bits .and .u32 (c.r.getD 1 0) 31=(((c.r.getD 1 0).toNat%32:Nat):Int):=hand;obtain⟨k,hk⟩:∃k,(c.r.getD 1 0).toNat%32=k:=⟨_,rfl⟩
 rw[hk]at hand2;have hk2:c.r.getD 1 0%32=(k:Int):=by omega
 have hklt:k<32:=by omega
 have hsh:shM 21 z d c=if k=0 then c else{c with r:=c.r.set d (wrR (c.r.getD d 0) (shN 21 z (c.r.getD d 0%pwZ z) k).1 z),f:=rsF (shN 21 z (c.r.getD d 0%pwZ z) k).1 z (if(shN 21 z (c.r.getD d 0%pwZ z) k).2=true then 1 else 0)}:=by
  exact A6N
 rw[hsh];have a0:0≤c.r.getD d 0%pwZ z:=Int.emod_nonneg _ (by omega);have a1:c.r.getD d 0%pwZ z<pwZ z:=Int.emod_lt_of_pos _ hpw.1;have HBD:=hid (fun j=>A2z (op:=21) h.zz a0 a1 j);have CS0:Hid (∀n,0≤n→n<4294967296→∀wk,MSt base T M mv x z fl c wk→Calls prog 159 #[.pointer (some ⟨T,0,none⟩),.int .i64 (d:Int),.int .u32 n] wk fun e w'=>e= .returned (.tuple #[])∧MSt base T M mv x z fl {c with r:=c.r.set d (wrR (c.r.getD d 0) n z)} w'∧Ch T M mv wk w'):=fun n n0 n1 wk hk=>I2 d hd n wk hk n0 n1
 generalize hA:c.r.getD d 0%pwZ z=a at*
 clear hxd hxo hand hk hk2 hsh hA h;generalize c.r.getD 1 0=r1 at*
 by_cases hk0:k=0
 ·exact B1O
 rw[if_neg hk0];obtain⟨nf,hnf⟩:∃q,(shN 21 z a k).1=q:=⟨_,rfl⟩
 obtain⟨lf,hlf⟩:∃q,(shN 21 z a k).2=q:=⟨_,rfl⟩
 obtain⟨of,hof⟩:∃q,(if lf=true then(1:Int)else 0)=q:=⟨_,rfl⟩
 rw[hnf,hlf,hof];have CF1:=hid (fun wk=>M7 lf 1 wk);rw[hof]at CF1;have HOF:Hid (OthF of):=hid (by rw[←hof];unfold OthF;cases lf<;>simp);have HNF:=hid hnf;have HLF:=hid hlf;clear hnf hlf hof;have hkb:((k:Int)==0)=false:=by simpa using hk0
 go_enter func166,ntmps166;go_wp2_with((with_reducible refine(CG.out).mono ?_);rintro e w1 ⟨rfl,n1,rfl⟩)
 go_loopw[2,4,25] (fun n l i wr=>∃j:Nat,j≤k∧n= .int .u32 (shN 21 z a j).1∧l= .bool (shN 21 z a j).2∧i= .int .u32 j∧wr=w.drewN n1) (fun _ _ i _=>k-(intOf i).toNat)
 case atStart=>exact⟨0,Nat.zero_le _,rfl,rfl,rfl,rfl⟩
 case round=>
  obtain⟨j,hj,rfl,rfl,rfl,rfl⟩:=hrel;have hb:=HBD.out j;have hpp:=HPW.out;by_cases hlt:j<k
  ·have HS:Hid (shN 21 z a (j+1)=A0M 21 z (shN 21 z a j).1):=rfl;generalize(shN 21 z a j).2=lb at*
   generalize(shN 21 z a j).1=n at*
   have hlt':decide ((j:Int)<k)=true:=decide_eq_true (by omega);have hw:(j:Int)+1<4294967296:=by omega
   have CH:=hid (O8 n _ (H0.out.drewN n1) hb.1 (by omega));have CM:=hid (T1 _ (H0.out.drewN n1));have HSA:=hid (A8U n z HZ.out);have HN:Hid (A0M 21 z n=((2*n)%pwZ z,hiB n z)):=rfl;generalize hiB n z=hb1 at*
   go_wp2_with((with_reducible first|refine(CH.out).mono ?_|refine(CM.out).mono ?_);rintro e w' ⟨rfl,rfl⟩)
   go_roundw
   case rel=>exact⟨j+1,by omega,by rw[HS.out,HN.out];simp only;rw[HSA.out],by rw[HS.out,HN.out],by go_num,by first|rfl|trivial⟩
   case measure=>simp[intOf];omega
  ·obtain rfl:j=k:=by omega
   have hd':decide ((j:Int)<j)=false:=decide_eq_false (by omega);rw[HNF.out]at hb⊢;rw[HLF.out];have CS:=hid (CS0.out nf hb.1 (by omega) _ (H0.out.drewN n1));have CR:=hid (fun(c':Mac) wk (hk:MSt base T M mv x z fl c' wk)=>P4 nf of wk hk hb.1 (by omega) HOF.out);exact B1Z
theorem A6B(d:Nat)(hd:d<32)(w:World)(h:MSt base T M mv x z fl c w)(hxd:x.d=(d:Int))(hxo:x.o=22):Calls prog 166 #[.pointer (some ⟨T,0,none⟩)] w fun e w'=>e= .returned (.tuple #[])∧MSt base T M mv x z fl (shM 22 z d c) w'∧Ch T M mv w w':=by
 have hpw:=D8 h.zz;have HZ:=hid h.zz;have HPW:=hid hpw;have x1:=h.xd;rw[hxd]at x1;have x0:=h.xo;rw[hxo]at x0;have hp:=h.ptr;have hsz:=h.sz;have hT:=h.ltT;have hM:=h.ltM;have hr1:=(h.reg (d:=1) (by decide)).1;have hb1:=h.rb 1;have CG:=hid (H8 d hd w h);have H0:=hid h;have HQ:Hid (∀c',c'=shM 22 z d c→MSt base T M mv x z fl c'=MSt base T M mv x z fl (shM 22 z d c)):=fun c' e=>by rw[e]
 have hand:=R1 (c.r.getD 1 0).toNat 5 (by omega) (by decide);rw[show(((c.r.getD 1 0).toNat:Nat):Int)=c.r.getD 1 0 by omega]at hand;have hand2:bits .and .u32 (c.r.getD 1 0) 31=(((c.r.getD 1 0).toNat%32:Nat):Int):=hand;obtain⟨k,hk⟩:∃k,(c.r.getD 1 0).toNat%32=k:=⟨_,rfl⟩
 rw[hk]at hand2;have hk2:c.r.getD 1 0%32=(k:Int):=by omega
 have hklt:k<32:=by omega
 have hsh:shM 22 z d c=if k=0 then c else{c with r:=c.r.set d (wrR (c.r.getD d 0) (shN 22 z (c.r.getD d 0%pwZ z) k).1 z),f:=rsF (shN 22 z (c.r.getD d 0%pwZ z) k).1 z (if(shN 22 z (c.r.getD d 0%pwZ z) k).2=true then 1 else 0)}:=by
  exact A6N
 rw[hsh];have a0:0≤c.r.getD d 0%pwZ z:=Int.emod_nonneg _ (by omega);have a1:c.r.getD d 0%pwZ z<pwZ z:=Int.emod_lt_of_pos _ hpw.1;have HBD:=hid (fun j=>A2z (op:=22) h.zz a0 a1 j);have CS0:Hid (∀n,0≤n→n<4294967296→∀wk,MSt base T M mv x z fl c wk→Calls prog 159 #[.pointer (some ⟨T,0,none⟩),.int .i64 (d:Int),.int .u32 n] wk fun e w'=>e= .returned (.tuple #[])∧MSt base T M mv x z fl {c with r:=c.r.set d (wrR (c.r.getD d 0) n z)} w'∧Ch T M mv wk w'):=fun n n0 n1 wk hk=>I2 d hd n wk hk n0 n1
 generalize hA:c.r.getD d 0%pwZ z=a at*
 clear hxd hxo hand hk hk2 hsh hA h;generalize c.r.getD 1 0=r1 at*
 by_cases hk0:k=0
 ·exact B1O
 rw[if_neg hk0];obtain⟨nf,hnf⟩:∃q,(shN 22 z a k).1=q:=⟨_,rfl⟩
 obtain⟨lf,hlf⟩:∃q,(shN 22 z a k).2=q:=⟨_,rfl⟩
 obtain⟨of,hof⟩:∃q,(if lf=true then(1:Int)else 0)=q:=⟨_,rfl⟩
 rw[hnf,hlf,hof];have CF1:=hid (fun wk=>M7 lf 1 wk);rw[hof]at CF1;have HOF:Hid (OthF of):=hid (by rw[←hof];unfold OthF;cases lf<;>simp);have HNF:=hid hnf;have HLF:=hid hlf;clear hnf hlf hof;have hkb:((k:Int)==0)=false:=by simpa using hk0
 go_enter func166,ntmps166;go_wp2_with((with_reducible refine(CG.out).mono ?_);rintro e w1 ⟨rfl,n1,rfl⟩)
 go_loopw[2,4,25] (fun n l i wr=>∃j:Nat,j≤k∧n= .int .u32 (shN 22 z a j).1∧l= .bool (shN 22 z a j).2∧i= .int .u32 j∧wr=w.drewN n1) (fun _ _ i _=>k-(intOf i).toNat)
 case atStart=>exact⟨0,Nat.zero_le _,rfl,rfl,rfl,rfl⟩
 case round=>
  obtain⟨j,hj,rfl,rfl,rfl,rfl⟩:=hrel;have hb:=HBD.out j;have hpp:=HPW.out;by_cases hlt:j<k
  ·have HS:Hid (shN 22 z a (j+1)=A0M 22 z (shN 22 z a j).1):=rfl;generalize(shN 22 z a j).2=lb at*
   generalize(shN 22 z a j).1=n at*
   have hlt':decide ((j:Int)<k)=true:=decide_eq_true (by omega);have hw:(j:Int)+1<4294967296:=by omega
   have HN:Hid (A0M 22 z n=(n / 2,n%2==1)):=rfl;have hne:=g7 n hb.1 (by omega);go_wp2_with fail
   go_roundw
   case rel=>exact⟨j+1,by omega,by rw[HS.out,HN.out],by rw[HS.out,HN.out],by go_num,by first|rfl|trivial⟩
   case measure=>simp[intOf];omega
  ·obtain rfl:j=k:=by omega
   have hd':decide ((j:Int)<j)=false:=decide_eq_false (by omega);rw[HNF.out]at hb⊢;rw[HLF.out];have CS:=hid (CS0.out nf hb.1 (by omega) _ (H0.out.drewN n1));have CR:=hid (fun(c':Mac) wk (hk:MSt base T M mv x z fl c' wk)=>P4 nf of wk hk hb.1 (by omega) HOF.out);exact B1Z
theorem A6A(d:Nat)(hd:d<32)(w:World)(h:MSt base T M mv x z fl c w)(hxd:x.d=(d:Int))(hxo:x.o=23):Calls prog 166 #[.pointer (some ⟨T,0,none⟩)] w fun e w'=>e= .returned (.tuple #[])∧MSt base T M mv x z fl (shM 23 z d c) w'∧Ch T M mv w w':=by
 have hpw:=D8 h.zz;have HZ:=hid h.zz;have HPW:=hid hpw;have x1:=h.xd;rw[hxd]at x1;have x0:=h.xo;rw[hxo]at x0;have hp:=h.ptr;have hsz:=h.sz;have hT:=h.ltT;have hM:=h.ltM;have hr1:=(h.reg (d:=1) (by decide)).1;have hb1:=h.rb 1;have CG:=hid (H8 d hd w h);have H0:=hid h;have HQ:Hid (∀c',c'=shM 23 z d c→MSt base T M mv x z fl c'=MSt base T M mv x z fl (shM 23 z d c)):=fun c' e=>by rw[e]
 have hand:=R1 (c.r.getD 1 0).toNat 5 (by omega) (by decide);rw[show(((c.r.getD 1 0).toNat:Nat):Int)=c.r.getD 1 0 by omega]at hand;have hand2:bits .and .u32 (c.r.getD 1 0) 31=(((c.r.getD 1 0).toNat%32:Nat):Int):=hand;obtain⟨k,hk⟩:∃k,(c.r.getD 1 0).toNat%32=k:=⟨_,rfl⟩
 rw[hk]at hand2;have hk2:c.r.getD 1 0%32=(k:Int):=by omega
 have hklt:k<32:=by omega
 have hsh:shM 23 z d c=if k=0 then c else{c with r:=c.r.set d (wrR (c.r.getD d 0) (shN 23 z (c.r.getD d 0%pwZ z) k).1 z),f:=rsF (shN 23 z (c.r.getD d 0%pwZ z) k).1 z (if(shN 23 z (c.r.getD d 0%pwZ z) k).2=true then 1 else 0)}:=by
  exact A6N
 rw[hsh];have a0:0≤c.r.getD d 0%pwZ z:=Int.emod_nonneg _ (by omega);have a1:c.r.getD d 0%pwZ z<pwZ z:=Int.emod_lt_of_pos _ hpw.1;have HBD:=hid (fun j=>A2z (op:=23) h.zz a0 a1 j);have CS0:Hid (∀n,0≤n→n<4294967296→∀wk,MSt base T M mv x z fl c wk→Calls prog 159 #[.pointer (some ⟨T,0,none⟩),.int .i64 (d:Int),.int .u32 n] wk fun e w'=>e= .returned (.tuple #[])∧MSt base T M mv x z fl {c with r:=c.r.set d (wrR (c.r.getD d 0) n z)} w'∧Ch T M mv wk w'):=fun n n0 n1 wk hk=>I2 d hd n wk hk n0 n1
 generalize hA:c.r.getD d 0%pwZ z=a at*
 clear hxd hxo hand hk hk2 hsh hA h;generalize c.r.getD 1 0=r1 at*
 by_cases hk0:k=0
 ·exact B1O
 rw[if_neg hk0];obtain⟨nf,hnf⟩:∃q,(shN 23 z a k).1=q:=⟨_,rfl⟩
 obtain⟨lf,hlf⟩:∃q,(shN 23 z a k).2=q:=⟨_,rfl⟩
 obtain⟨of,hof⟩:∃q,(if lf=true then(1:Int)else 0)=q:=⟨_,rfl⟩
 rw[hnf,hlf,hof];have CF1:=hid (fun wk=>M7 lf 1 wk);rw[hof]at CF1;have HOF:Hid (OthF of):=hid (by rw[←hof];unfold OthF;cases lf<;>simp);have HNF:=hid hnf;have HLF:=hid hlf;clear hnf hlf hof;have hkb:((k:Int)==0)=false:=by simpa using hk0
 go_enter func166,ntmps166;go_wp2_with((with_reducible refine(CG.out).mono ?_);rintro e w1 ⟨rfl,n1,rfl⟩)
 go_loopw[2,4,25] (fun n l i wr=>∃j:Nat,j≤k∧n= .int .u32 (shN 23 z a j).1∧l= .bool (shN 23 z a j).2∧i= .int .u32 j∧wr=w.drewN n1) (fun _ _ i _=>k-(intOf i).toNat)
 case atStart=>exact⟨0,Nat.zero_le _,rfl,rfl,rfl,rfl⟩
 case round=>
  obtain⟨j,hj,rfl,rfl,rfl,rfl⟩:=hrel;have hb:=HBD.out j;have hpp:=HPW.out;by_cases hlt:j<k
  ·have HS:Hid (shN 23 z a (j+1)=A0M 23 z (shN 23 z a j).1):=rfl;generalize(shN 23 z a j).2=lb at*
   generalize(shN 23 z a j).1=n at*
   have hlt':decide ((j:Int)<k)=true:=decide_eq_true (by omega);have hw:(j:Int)+1<4294967296:=by omega
   have CH:=hid (O8 n _ (H0.out.drewN n1) hb.1 (by omega));have HN:Hid (A0M 23 z n=(n / 2+(if hiB n z=true then pwZ z / 2 else 0),n%2==1)):=rfl;have hne:=g7 n hb.1 (by omega);have HJ:=hid (A6J HZ.out hb.1 hb.2 (hiB n z));generalize hiB n z=hb1 at*
   have CF:=hid (M7 hb1 1 (w.drewN n1));have hzz:=HZ.out;clear HZ;rcases hzz with rfl|rfl<;>cases hb1
   ·have hj:bits .or .u32 (n / 2) 0=n / 2+0:=HJ.out;clear HJ;exact A8e
   ·have hj:bits .or .u32 (n / 2) 32768=n / 2+32768:=HJ.out;clear HJ;exact A8e
   ·have hj:bits .or .u32 (n / 2) 0=n / 2+0:=HJ.out;clear HJ;exact A8e
   ·have hj:bits .or .u32 (n / 2) 2147483648=n / 2+2147483648:=HJ.out;clear HJ;exact A8e
  ·obtain rfl:j=k:=by omega
   have hd':decide ((j:Int)<j)=false:=decide_eq_false (by omega);rw[HNF.out]at hb⊢;rw[HLF.out];have CS:=hid (CS0.out nf hb.1 (by omega) _ (H0.out.drewN n1));have CR:=hid (fun(c':Mac) wk (hk:MSt base T M mv x z fl c' wk)=>P4 nf of wk hk hb.1 (by omega) HOF.out);exact B1Z
end
end Go.Proofs.YtajljbmeaeeknaaGreat
