/- -/
import Derived.Test.YtajljbmeaeeknaaGreatS8
open Go.Proofs.Tryz
open Go.Lib (hid)
set_option maxHeartbeats 1000000
set_option maxRecDepth 100000
namespace Go.Proofs.YtajljbmeaeeknaaGreat
open Go.RowKit
set_option linter.unusedVariables false
set_option linter.unusedSimpArgs false
theorem A4U{p:Prop}(h:p:=by
 repeat(first|with_reducible exact Below.refl _ _|with_reducible refine Below.alloc ?_ (by simp<;>omega) _)
 ):p:=h
theorem E5{w w1:World}(hb:Below (w.alloc (.cells #[.nilFunc,.slice none 0 0,.nilFunc] 178)).heap.size (w.alloc (.cells #[.nilFunc,.slice none 0 0,.nilFunc] 178)) w1):(w1.cell? ⟨w.heap.size,0,none⟩=some .nilFunc∧w1.cell? ⟨w.heap.size,1,none⟩=some (.slice none 0 0)∧w1.cell? ⟨w.heap.size,2,none⟩=some .nilFunc)∧
  (w1.frozen? ⟨w.heap.size,0,none⟩=false∧w1.frozen? ⟨w.heap.size,1,none⟩=false∧w1.frozen? ⟨w.heap.size,2,none⟩=false)∧w.heap.size<w1.heap.size:=by
 obtain⟨hc,hf⟩:=A6v hb;have hz:=hb.size;rw[World.size_alloc]at hz;refine⟨⟨?_,?_,?_⟩,⟨?_,?_,?_⟩,by omega⟩
 ·rw[hc _ _ (by simp)];simp[go_sem]
 ·rw[hc _ _ (by simp)];simp[go_sem]
 ·rw[hc _ _ (by simp)];simp[go_sem]
 ·rw[hf _ _ (by simp)];simp[go_sem]
 ·rw[hf _ _ (by simp)];simp[go_sem]
 ·rw[hf _ _ (by simp)];simp[go_sem]
def M1(o:Int)(w:World)(e:Ending)(w':World):Prop:=∃k,e= .returned (.tuple #[k,.bool true])∧Knd w.heap.size w' k o∧Below w.heap.size w w'
theorem E4{w:World}{R:Nat}{u0 u1 u2:Value}{b:Nat}(h:b≠R):(((w.setCell ⟨R,0,none⟩ u0).setCell ⟨R,1,none⟩ u1).setCell ⟨R,2,none⟩ u2).heap[b]? =w.heap[b]? :=by
 rw[Below.heap_setCell _ _ _ _ (by simpa using h),Below.heap_setCell _ _ _ _ (by simpa using h),Below.heap_setCell _ _ _ _ (by simpa using h)]
theorem B0G(w:World):Calls prog 118 #[.int .i64 0] w (M1 0 w):=by
 go_enter func118,ntmps118;go_wp2_with((go_at_call 171;refine(A2k _ _).mono ?_);rintro e w1 ⟨b,g,rfl,h1,h2,l1,_,l2,_,hb⟩;obtain⟨⟨z0,z1,z2⟩,⟨f0,f1,f2⟩,hz⟩:=E5 (hb);simp only[World.size_alloc]at l1 l2)
 exact bodyPost_ret (v:=.tuple #[.agg #[.func (.func 226) #[] #[],.slice (some ⟨g,0,none⟩) 2 2,.func (.func 227) #[] #[.pointer (some ⟨b,0,none⟩)]],.bool true]) (by simp[results,results118,go_sem,z0,z1,z2,hz]) rfl ⟨_,rfl,(((A9a (w.heap.size+1) w1 g b h2 h1 l2 l1).keep (by simp) (fun b hb _=>E4 (by omega))).mono (by omega)),A9 (A9 (A9 (C9 hb) (Nat.le_refl _) 0 _) (Nat.le_refl _) 1 _) (Nat.le_refl _) 2 _⟩
theorem B0F(w:World):Calls prog 118 #[.int .i64 1] w (M1 1 w):=by
 go_enter func118,ntmps118;go_wp2_with fail
 refine bodyPost_ret (v:=.tuple #[.agg #[.func (.func 172) #[] #[],.slice (some ⟨w.heap.size+1,0,none⟩) 2 2,.func (.func 175) #[] #[]],.bool true]) (by simp[results,results118,go_sem]) rfl ⟨_,rfl,Knd.mono (A9Z (w.heap.size+1) _ (w.heap.size+1) ?_ (by omega)) (by omega),?_⟩
 ·first|exact D7 (by simp)|(refine E1 ?_;exact D7 (by simp))
 ·exact A4U
theorem B0E(w:World):Calls prog 118 #[.int .i64 2] w (M1 2 w):=by
 go_enter func118,ntmps118;go_wp2_with(first|((go_at_call 177;refine(z5 _ _ _ _).mono ?_);rintro e w1 ⟨b,g,rfl,h1,h2,l1,_,l2,_,hb⟩;have hb':=C9 hb;have ho:=F6 (D7 (w:=(w.alloc (.cells #[.nilFunc,.slice none 0 0,.nilFunc] 178))) (cs:=#[.int .u8 139]) (t:=5) rfl) hb;obtain⟨⟨z0,z1,z2⟩,⟨f0,f1,f2⟩,hz⟩:=E5 (hb');simp only[World.size_alloc]at l1 l2)|((go_at_call 176;refine(A0p _ _ _ _ _ _ _ _).mono ?_);rintro e w2 ⟨g2,rfl,k1,l3,_,hb2⟩;have hb3:=B7 hb' hb'.size hb2;obtain⟨⟨z0,z1,z2⟩,⟨f0,f1,f2⟩,hz⟩:=E5 (hb3);have h1':=F6 h1 hb2;have ho':=F6 ho hb2;have hs1:=hb'.size;simp only[World.size_alloc]at hs1))
 exact bodyPost_ret (v:=.tuple #[.agg #[.func (.func 228) #[] #[],.slice (some ⟨g2,0,none⟩) 2 2,.func (.func 231) #[] #[.pointer (some ⟨b,0,none⟩)]],.bool true]) (by simp[results,results118,go_sem,z0,z1,z2,hz]) rfl ⟨_,rfl,(((A9Y (w.heap.size+1) w2 g2 b (w.heap.size+1) k1 h1' (by simpa using ho') (by omega) (by omega) (by omega)).keep (by simp) (fun b hb _=>E4 (by omega))).mono (by omega)),A9 (A9 (A9 (C9 hb3) (Nat.le_refl _) 0 _) (Nat.le_refl _) 1 _) (Nat.le_refl _) 2 _⟩
theorem B0D(w:World):Calls prog 118 #[.int .i64 3] w (M1 3 w):=by
 go_enter func118,ntmps118;go_wp2_with(first|((go_at_call 178;refine(A0o _ _ _).mono ?_);rintro e w1 ⟨b,b2,g,rfl,h1,h2,h3,l1,_,l2,_,l3,_,hb⟩;obtain⟨⟨z0,z1,z2⟩,⟨f0,f1,f2⟩,hz⟩:=E5 (hb);simp only[World.size_alloc]at l1 l2 l3)|((go_at_call 176;refine(A0p _ _ _ _ _ _ _ _).mono ?_);rintro e w2 ⟨g2,rfl,k1,l4,_,hb2⟩;have hb3:=B7 hb hb.size hb2;obtain⟨⟨z0,z1,z2⟩,⟨f0,f1,f2⟩,hz⟩:=E5 (hb3);have h1':=F6 h1 hb2;have h2':=F6 h2 hb2;have hs1:=hb.size;simp only[World.size_alloc]at hs1))
 exact bodyPost_ret (v:=.tuple #[.agg #[.func (.func 233) #[] #[.pointer (some ⟨b2,0,none⟩)],.slice (some ⟨g2,0,none⟩) 2 2,.func (.func 234) #[] #[.pointer (some ⟨b,0,none⟩)]],.bool true]) (by simp[results,results118,go_sem,z0,z1,z2,hz]) rfl ⟨_,rfl,(((A9X (w.heap.size+1) w2 g2 b b2 k1 h1' h2' (by omega) (by omega) (by omega)).keep (by simp) (fun b hb _=>E4 (by omega))).mono (by omega)),A9 (A9 (A9 (C9 hb3) (Nat.le_refl _) 0 _) (Nat.le_refl _) 1 _) (Nat.le_refl _) 2 _⟩
theorem B0C(w:World):Calls prog 118 #[.int .i64 4] w (M1 4 w):=by
 go_enter func118,ntmps118;go_wp2_with((go_at_call 177;refine(z5 _ _ _ _).mono ?_);rintro e w1 ⟨b,g,rfl,h1,h2,l1,_,l2,_,hb⟩;have hb':=C9 hb;have ho:=F6 (D7 (w:=(w.alloc (.cells #[.nilFunc,.slice none 0 0,.nilFunc] 178))) (cs:=#[.int .u8 15,.int .u8 182]) (t:=5) rfl) hb;obtain⟨⟨z0,z1,z2⟩,⟨f0,f1,f2⟩,hz⟩:=E5 (hb');simp only[World.size_alloc]at l1 l2)
 exact bodyPost_ret (v:=.tuple #[.agg #[.func (.func 228) #[] #[],.slice (some ⟨g,0,none⟩) 1 1,.func (.func 231) #[] #[.pointer (some ⟨b,0,none⟩)]],.bool true]) (by simp[results,results118,go_sem,z0,z1,z2,hz]) rfl ⟨_,rfl,(((A9W (w.heap.size+1) w1 g b (w.heap.size+1) h2 h1 (by simpa using ho) (by omega) (by omega) (by omega)).keep (by simp) (fun b hb _=>E4 (by omega))).mono (by omega)),A9 (A9 (A9 (C9 hb') (Nat.le_refl _) 0 _) (Nat.le_refl _) 1 _) (Nat.le_refl _) 2 _⟩
theorem B0B(w:World):Calls prog 118 #[.int .i64 5] w (M1 5 w):=by
 go_enter func118,ntmps118;go_wp2_with((go_at_call 177;refine(z5 _ _ _ _).mono ?_);rintro e w1 ⟨b,g,rfl,h1,h2,l1,_,l2,_,hb⟩;have hb':=C9 hb;have ho:=F6 (D7 (w:=(w.alloc (.cells #[.nilFunc,.slice none 0 0,.nilFunc] 178))) (cs:=#[.int .u8 15,.int .u8 183]) (t:=5) rfl) hb;obtain⟨⟨z0,z1,z2⟩,⟨f0,f1,f2⟩,hz⟩:=E5 (hb');simp only[World.size_alloc]at l1 l2)
 exact bodyPost_ret (v:=.tuple #[.agg #[.func (.func 228) #[] #[],.slice (some ⟨g,0,none⟩) 1 1,.func (.func 231) #[] #[.pointer (some ⟨b,0,none⟩)]],.bool true]) (by simp[results,results118,go_sem,z0,z1,z2,hz]) rfl ⟨_,rfl,(((A9V (w.heap.size+1) w1 g b (w.heap.size+1) h2 h1 (by simpa using ho) (by omega) (by omega) (by omega)).keep (by simp) (fun b hb _=>E4 (by omega))).mono (by omega)),A9 (A9 (A9 (C9 hb') (Nat.le_refl _) 0 _) (Nat.le_refl _) 1 _) (Nat.le_refl _) 2 _⟩
theorem B0A(w:World):Calls prog 118 #[.int .i64 6] w (M1 6 w):=by
 go_enter func118,ntmps118;go_wp2_with((go_at_call 178;refine(A0o _ _ _).mono ?_);rintro e w1 ⟨b,b2,g,rfl,h1,h2,h3,l1,_,l2,_,l3,_,hb⟩;obtain⟨⟨z0,z1,z2⟩,⟨f0,f1,f2⟩,hz⟩:=E5 (hb);simp only[World.size_alloc]at l1 l2 l3)
 exact bodyPost_ret (v:=.tuple #[.agg #[.func (.func 233) #[] #[.pointer (some ⟨b2,0,none⟩)],.slice (some ⟨g,0,none⟩) 1 1,.func (.func 234) #[] #[.pointer (some ⟨b,0,none⟩)]],.bool true]) (by simp[results,results118,go_sem,z0,z1,z2,hz]) rfl ⟨_,rfl,(((A9U (w.heap.size+1) w1 g b b2 h3 h1 h2 (by omega) (by omega) (by omega)).keep (by simp) (fun b hb _=>E4 (by omega))).mono (by omega)),A9 (A9 (A9 (C9 hb) (Nat.le_refl _) 0 _) (Nat.le_refl _) 1 _) (Nat.le_refl _) 2 _⟩
theorem P6(o:Int)(ho:o=7∨o=8∨o=9∨o=10∨o=11∨o=12∨o=13)(w:World):Calls prog 119 #[.int .i64 o] w (M1 o w):=by
 rcases ho with rfl|rfl|rfl|rfl|rfl|rfl|rfl
 all_goals
  go_enter func119,ntmps119;go_wp2_with((go_at_call 171;refine(A2k _ _).mono ?_);rintro e w1 ⟨b,g,rfl,h1,h2,l1,_,l2,_,hb⟩;obtain⟨⟨z0,z1,z2⟩,⟨f0,f1,f2⟩,hz⟩:=E5 (hb);simp only[World.size_alloc]at l1 l2)
  exact bodyPost_ret (v:=.tuple #[.agg #[.func (.func 226) #[] #[],.slice (some ⟨g,0,none⟩) 2 2,.func (.func 227) #[] #[.pointer (some ⟨b,0,none⟩)]],.bool true]) (by simp[results,results119,go_sem,z0,z1,z2,hz]) rfl ⟨_,rfl,(((A4w _ _ (by decide) (w.heap.size+1) w1 g b h2 h1 l2 l1).keep (by simp) (fun b hb _=>E4 (by omega))).mono (by omega)),A9 (A9 (A9 (C9 hb) (Nat.le_refl _) 0 _) (Nat.le_refl _) 1 _) (Nat.le_refl _) 2 _⟩
theorem X6(o:Int)(ho:o=14∨o=15∨o=16∨o=17∨o=18∨o=19)(w:World):Calls prog 119 #[.int .i64 o] w (M1 o w):=by
 rcases ho with rfl|rfl|rfl|rfl|rfl|rfl
 all_goals
  go_enter func119,ntmps119;go_wp2_with((go_at_call 180;refine(A7t _ _).mono ?_);rintro e w1 ⟨b,g,rfl,h1,h2,l1,_,l2,_,hb⟩;obtain⟨⟨z0,z1,z2⟩,⟨f0,f1,f2⟩,hz⟩:=E5 (hb);simp only[World.size_alloc]at l1 l2)
  exact bodyPost_ret (v:=.tuple #[.agg #[.func (.func 235) #[] #[],.slice (some ⟨g,0,none⟩) 2 2,.func (.func 236) #[] #[.pointer (some ⟨b,0,none⟩)]],.bool true]) (by simp[results,results119,go_sem,z0,z1,z2,hz]) rfl ⟨_,rfl,(((A6M _ _ (by decide) (w.heap.size+1) w1 g b h2 h1 l2 l1).keep (by simp) (fun b hb _=>E4 (by omega))).mono (by omega)),A9 (A9 (A9 (C9 hb) (Nat.le_refl _) 0 _) (Nat.le_refl _) 1 _) (Nat.le_refl _) 2 _⟩
theorem A9R(w:World):Calls prog 120 #[.int .i64 20] w (M1 20 w):=by
 go_enter func120,ntmps120;go_wp2_with fail
 refine bodyPost_ret (v:=.tuple #[.agg #[.func (.func 181) #[] #[],.slice (some ⟨w.heap.size+1,0,none⟩) 1 1,.func (.func 182) #[] #[]],.bool true]) (by simp[results,results120,go_sem]) rfl ⟨_,rfl,Knd.mono (A7q (w.heap.size+1) _ (w.heap.size+1) ?_ (by omega)) (by omega),?_⟩
 ·first|exact D7 (by simp)|(refine E1 ?_;exact D7 (by simp))
 ·exact A4U
theorem A4r(o:Int)(ho:o=21∨o=22∨o=23)(w:World):Calls prog 120 #[.int .i64 o] w (M1 o w):=by
 rcases ho with rfl|rfl|rfl
 all_goals
  go_enter func120,ntmps120;go_wp2_with((go_at_call 184;refine(X8 _ _ _ _ _ _).mono ?_);rintro e w1 ⟨b,b2,rfl,h1,h2,l1,_,l2,_,hb⟩;have hb':=C9 hb;have ho:=F6 (D7 (w:=(w.alloc (.cells #[.nilFunc,.slice none 0 0,.nilFunc] 178))) (cs:=#[.int .i64 32,.int .i64 16]) (t:=3) rfl) hb;obtain⟨⟨z0,z1,z2⟩,⟨f0,f1,f2⟩,hz⟩:=E5 (hb');simp only[World.size_alloc]at l1 l2)
  exact bodyPost_ret (v:=.tuple #[.agg #[.func (.func 238) #[] #[],.slice (some ⟨w.heap.size+1,0,none⟩) 2 2,.func (.func 239) #[] #[.pointer (some ⟨b,0,none⟩),.pointer (some ⟨b2,0,none⟩)]],.bool true]) (by simp[results,results120,go_sem,z0,z1,z2,hz]) rfl ⟨_,rfl,(((A7e _ _ (by decide) (w.heap.size+1) w1 (w.heap.size+1) b b2 (by simpa using ho) h1 h2 (by omega) (by omega) (by omega)).keep (by simp) (fun b hb _=>E4 (by omega))).mono (by omega)),A9 (A9 (A9 (C9 hb') (Nat.le_refl _) 0 _) (Nat.le_refl _) 1 _) (Nat.le_refl _) 2 _⟩
theorem A6p(o:Int)(ho:o=24∨o=25)(w:World):Calls prog 120 #[.int .i64 o] w (M1 o w):=by
 rcases ho with rfl|rfl
 all_goals
  go_enter func120,ntmps120;go_wp2_with((go_at_call 184;refine(X8 _ _ _ _ _ _).mono ?_);rintro e w1 ⟨b,b2,rfl,h1,h2,l1,_,l2,_,hb⟩;have hb':=C9 hb;have ho:=F6 (D7 (w:=(w.alloc (.cells #[.nilFunc,.slice none 0 0,.nilFunc] 178))) (cs:=#[.int .i64 32,.int .i64 16]) (t:=3) rfl) hb;obtain⟨⟨z0,z1,z2⟩,⟨f0,f1,f2⟩,hz⟩:=E5 (hb');simp only[World.size_alloc]at l1 l2)
  exact bodyPost_ret (v:=.tuple #[.agg #[.func (.func 238) #[] #[],.slice (some ⟨w.heap.size+1,0,none⟩) 2 2,.func (.func 239) #[] #[.pointer (some ⟨b,0,none⟩),.pointer (some ⟨b2,0,none⟩)]],.bool true]) (by simp[results,results120,go_sem,z0,z1,z2,hz]) rfl ⟨_,rfl,(((A7f _ _ (by decide) (w.heap.size+1) w1 (w.heap.size+1) b b2 (by simpa using ho) h1 h2 (by omega) (by omega) (by omega)).keep (by simp) (fun b hb _=>E4 (by omega))).mono (by omega)),A9 (A9 (A9 (C9 hb') (Nat.le_refl _) 0 _) (Nat.le_refl _) 1 _) (Nat.le_refl _) 2 _⟩
theorem A6q(o:Int)(ho:o=26∨o=27)(w:World):Calls prog 120 #[.int .i64 o] w (M1 o w):=by
 rcases ho with rfl|rfl
 all_goals
  go_enter func120,ntmps120;go_wp2_with((go_at_call 184;refine(X8 _ _ _ _ _ _).mono ?_);rintro e w1 ⟨b,b2,rfl,h1,h2,l1,_,l2,_,hb⟩;have hb':=C9 hb;have ho:=F6 (D7 (w:=(w.alloc (.cells #[.nilFunc,.slice none 0 0,.nilFunc] 178))) (cs:=#[.int .i64 32]) (t:=3) rfl) hb;obtain⟨⟨z0,z1,z2⟩,⟨f0,f1,f2⟩,hz⟩:=E5 (hb');simp only[World.size_alloc]at l1 l2)
  exact bodyPost_ret (v:=.tuple #[.agg #[.func (.func 238) #[] #[],.slice (some ⟨w.heap.size+1,0,none⟩) 1 1,.func (.func 239) #[] #[.pointer (some ⟨b,0,none⟩),.pointer (some ⟨b2,0,none⟩)]],.bool true]) (by simp[results,results120,go_sem,z0,z1,z2,hz]) rfl ⟨_,rfl,(((A7g _ _ (by decide) (w.heap.size+1) w1 (w.heap.size+1) b b2 (by simpa using ho) h1 h2 (by omega) (by omega) (by omega)).keep (by simp) (fun b hb _=>E4 (by omega))).mono (by omega)),A9 (A9 (A9 (C9 hb') (Nat.le_refl _) 0 _) (Nat.le_refl _) 1 _) (Nat.le_refl _) 2 _⟩
theorem A9Q(w:World):Calls prog 120 #[.int .i64 28] w (M1 28 w):=by
 go_enter func120,ntmps120;go_wp2_with((go_at_call 185;refine(f7 _ _ _ _).mono ?_);rintro e w1 ⟨b,g,rfl,h1,h2,l1,_,l2,_,hb⟩;have hb':=C9 hb;have ho:=F6 (D7 (w:=(w.alloc (.cells #[.nilFunc,.slice none 0 0,.nilFunc] 178))) (cs:=#[.int .u8 153]) (t:=5) rfl) hb;obtain⟨⟨z0,z1,z2⟩,⟨f0,f1,f2⟩,hz⟩:=E5 (hb');simp only[World.size_alloc]at l1 l2)
 exact bodyPost_ret (v:=.tuple #[.agg #[.func (.func 240) #[] #[],.slice (some ⟨g,0,none⟩) 1 1,.func (.func 241) #[] #[.pointer (some ⟨b,0,none⟩)]],.bool true]) (by simp[results,results120,go_sem,z0,z1,z2,hz]) rfl ⟨_,rfl,(((A7p (w.heap.size+1) w1 g b (w.heap.size+1) h2 h1 (by simpa using ho) (by omega) (by omega) (by omega)).keep (by simp) (fun b hb _=>E4 (by omega))).mono (by omega)),A9 (A9 (A9 (C9 hb') (Nat.le_refl _) 0 _) (Nat.le_refl _) 1 _) (Nat.le_refl _) 2 _⟩
theorem A9P(w:World):Calls prog 120 #[.int .i64 29] w (M1 29 w):=by
 go_enter func120,ntmps120;go_wp2_with fail
 refine bodyPost_ret (v:=.tuple #[.agg #[.func (.func 186) #[] #[],.slice (some ⟨w.heap.size+1,0,none⟩) 1 1,.func (.func 188) #[] #[]],.bool true]) (by simp[results,results120,go_sem]) rfl ⟨_,rfl,Knd.mono (A7o (w.heap.size+1) _ (w.heap.size+1) ?_ (by omega)) (by omega),?_⟩
 ·first|exact D7 (by simp)|(refine E1 ?_;exact D7 (by simp))
 ·exact A4U
theorem A9O(w:World):Calls prog 120 #[.int .i64 30] w (M1 30 w):=by
 go_enter func120,ntmps120;go_wp2_with fail
 refine bodyPost_ret (v:=.tuple #[.agg #[.func (.func 189) #[] #[],.slice (some ⟨w.heap.size+1,0,none⟩) 1 1,.func (.func 190) #[] #[]],.bool true]) (by simp[results,results120,go_sem]) rfl ⟨_,rfl,Knd.mono (A7n (w.heap.size+1) _ (w.heap.size+1) ?_ (by omega)) (by omega),?_⟩
 ·first|exact D7 (by simp)|(refine E1 ?_;exact D7 (by simp))
 ·exact A4U
theorem A9N(w:World):Calls prog 120 #[.int .i64 31] w (M1 31 w):=by
 go_enter func120,ntmps120;go_wp2_with fail
 refine bodyPost_ret (v:=.tuple #[.agg #[.func (.func 191) #[] #[],.slice (some ⟨w.heap.size+1,0,none⟩) 1 1,.func (.func 192) #[] #[]],.bool true]) (by simp[results,results120,go_sem]) rfl ⟨_,rfl,Knd.mono (A7m (w.heap.size+1) _ (w.heap.size+1) ?_ (by omega)) (by omega),?_⟩
 ·first|exact D7 (by simp)|(refine E1 ?_;exact D7 (by simp))
 ·exact A4U
theorem A9M(w:World):Calls prog 120 #[.int .i64 32] w (M1 32 w):=by
 go_enter func120,ntmps120;go_wp2_with((go_at_call 193;refine(A2l _ _ _ _).mono ?_);rintro e w1 ⟨b1,b2,b3,g,rfl,h1,h2,h3,h4,l1,_,l2,_,l3,_,l4,_,hb⟩;obtain⟨⟨z0,z1,z2⟩,⟨f0,f1,f2⟩,hz⟩:=E5 (hb);simp only[World.size_alloc]at l1 l2 l3 l4)
 exact bodyPost_ret (v:=.tuple #[.agg #[.func (.func 242) #[] #[.pointer (some ⟨b3,0,none⟩)],.slice (some ⟨g,0,none⟩) 2 2,.func (.func 243) #[] #[.pointer (some ⟨b1,0,none⟩),.pointer (some ⟨b2,0,none⟩)]],.bool true]) (by simp[results,results120,go_sem,z0,z1,z2,hz]) rfl ⟨_,rfl,(((A7l (w.heap.size+1) w1 g b1 b2 b3 h4 h1 h2 h3 l4 l1 l2 l3).keep (by simp) (fun b hb _=>E4 (by omega))).mono (by omega)),A9 (A9 (A9 (C9 hb) (Nat.le_refl _) 0 _) (Nat.le_refl _) 1 _) (Nat.le_refl _) 2 _⟩
theorem A9L(w:World):Calls prog 120 #[.int .i64 33] w (M1 33 w):=by
 go_enter func120,ntmps120;go_wp2_with((go_at_call 193;refine(A2l _ _ _ _).mono ?_);rintro e w1 ⟨b1,b2,b3,g,rfl,h1,h2,h3,h4,l1,_,l2,_,l3,_,l4,_,hb⟩;obtain⟨⟨z0,z1,z2⟩,⟨f0,f1,f2⟩,hz⟩:=E5 (hb);simp only[World.size_alloc]at l1 l2 l3 l4)
 exact bodyPost_ret (v:=.tuple #[.agg #[.func (.func 242) #[] #[.pointer (some ⟨b3,0,none⟩)],.slice (some ⟨g,0,none⟩) 2 2,.func (.func 243) #[] #[.pointer (some ⟨b1,0,none⟩),.pointer (some ⟨b2,0,none⟩)]],.bool true]) (by simp[results,results120,go_sem,z0,z1,z2,hz]) rfl ⟨_,rfl,(((A7k (w.heap.size+1) w1 g b1 b2 b3 h4 h1 h2 h3 l4 l1 l2 l3).keep (by simp) (fun b hb _=>E4 (by omega))).mono (by omega)),A9 (A9 (A9 (C9 hb) (Nat.le_refl _) 0 _) (Nat.le_refl _) 1 _) (Nat.le_refl _) 2 _⟩
theorem A9K(w:World):Calls prog 120 #[.int .i64 34] w (M1 34 w):=by
 go_enter func120,ntmps120;go_wp2_with((go_at_call 185;refine(f7 _ _ _ _).mono ?_);rintro e w1 ⟨b,g,rfl,h1,h2,l1,_,l2,_,hb⟩;have hb':=C9 hb;have ho:=F6 (D7 (w:=(w.alloc (.cells #[.nilFunc,.slice none 0 0,.nilFunc] 178))) (cs:=#[.int .u8 244]) (t:=5) rfl) hb;obtain⟨⟨z0,z1,z2⟩,⟨f0,f1,f2⟩,hz⟩:=E5 (hb');simp only[World.size_alloc]at l1 l2)
 exact bodyPost_ret (v:=.tuple #[.agg #[.func (.func 240) #[] #[],.slice (some ⟨g,0,none⟩) 1 1,.func (.func 241) #[] #[.pointer (some ⟨b,0,none⟩)]],.bool true]) (by simp[results,results120,go_sem,z0,z1,z2,hz]) rfl ⟨_,rfl,(((A7j (w.heap.size+1) w1 g b (w.heap.size+1) h2 h1 (by simpa using ho) (by omega) (by omega) (by omega)).keep (by simp) (fun b hb _=>E4 (by omega))).mono (by omega)),A9 (A9 (A9 (C9 hb') (Nat.le_refl _) 0 _) (Nat.le_refl _) 1 _) (Nat.le_refl _) 2 _⟩
theorem A9J(w:World):Calls prog 120 #[.int .i64 35] w (M1 35 w):=by
 go_enter func120,ntmps120;go_wp2_with((go_at_call 185;refine(f7 _ _ _ _).mono ?_);rintro e w1 ⟨b,g,rfl,h1,h2,l1,_,l2,_,hb⟩;have hb':=C9 hb;have ho:=F6 (D7 (w:=(w.alloc (.cells #[.nilFunc,.slice none 0 0,.nilFunc] 178))) (cs:=#[.int .u8 15,.int .u8 11]) (t:=5) rfl) hb;obtain⟨⟨z0,z1,z2⟩,⟨f0,f1,f2⟩,hz⟩:=E5 (hb');simp only[World.size_alloc]at l1 l2)
 exact bodyPost_ret (v:=.tuple #[.agg #[.func (.func 240) #[] #[],.slice (some ⟨g,0,none⟩) 1 1,.func (.func 241) #[] #[.pointer (some ⟨b,0,none⟩)]],.bool true]) (by simp[results,results120,go_sem,z0,z1,z2,hz]) rfl ⟨_,rfl,(((A7i (w.heap.size+1) w1 g b (w.heap.size+1) h2 h1 (by simpa using ho) (by omega) (by omega) (by omega)).keep (by simp) (fun b hb _=>E4 (by omega))).mono (by omega)),A9 (A9 (A9 (C9 hb') (Nat.le_refl _) 0 _) (Nat.le_refl _) 1 _) (Nat.le_refl _) 2 _⟩
theorem A9I(w:World):Calls prog 120 #[.int .i64 36] w (M1 36 w):=by
 go_enter func120,ntmps120;go_wp2_with((go_at_call 185;refine(f7 _ _ _ _).mono ?_);rintro e w1 ⟨b,g,rfl,h1,h2,l1,_,l2,_,hb⟩;have hb':=C9 hb;have ho:=F6 (D7 (w:=(w.alloc (.cells #[.nilFunc,.slice none 0 0,.nilFunc] 178))) (cs:=#[.int .u8 144]) (t:=5) rfl) hb;obtain⟨⟨z0,z1,z2⟩,⟨f0,f1,f2⟩,hz⟩:=E5 (hb');simp only[World.size_alloc]at l1 l2)
 exact bodyPost_ret (v:=.tuple #[.agg #[.func (.func 240) #[] #[],.slice (some ⟨g,0,none⟩) 1 1,.func (.func 241) #[] #[.pointer (some ⟨b,0,none⟩)]],.bool true]) (by simp[results,results120,go_sem,z0,z1,z2,hz]) rfl ⟨_,rfl,(((A7h (w.heap.size+1) w1 g b (w.heap.size+1) h2 h1 (by simpa using ho) (by omega) (by omega) (by omega)).keep (by simp) (fun b hb _=>E4 (by omega))).mono (by omega)),A9 (A9 (A9 (C9 hb') (Nat.le_refl _) 0 _) (Nat.le_refl _) 1 _) (Nat.le_refl _) 2 _⟩
theorem A8t{p:Prop}(h:p:=by
 go_enter func93,ntmps93;go_wp2_with((go_at_call 120;refine(A3Y _ _ (by omega)).mono ?_);rintro e w1 ⟨rfl,hb⟩;obtain⟨⟨z0,z1,z2⟩,⟨f0,f1,f2⟩,hz⟩:=E5 hb)
 exact bodyPost_ret (v:=.tuple #[.agg #[.nilFunc,.slice none 0 0,.nilFunc],.bool false]) (by simp[results,results93,go_sem,z0,z1,z2,hz]) rfl ⟨rfl,A9 (A9 (A9 (C9 hb) (Nat.le_refl _) 0 _) (Nat.le_refl _) 1 _) (Nat.le_refl _) 2 _⟩
 ):p:=h
theorem A1s(o:Int)(w:World)(h0:0≤o)(h1:o≤6):Calls prog 118 #[.int .i64 o] w (M1 o w):=by
 rcases(show o=0∨o=1∨o=2∨o=3∨o=4∨o=5∨o=6 by omega)with rfl|rfl|rfl|rfl|rfl|rfl|rfl
 ·exact B0G w
 ·exact B0F w
 ·exact B0E w
 ·exact B0D w
 ·exact B0C w
 ·exact B0B w
 ·exact B0A w
theorem A0D(o:Int)(w:World)(h0:7≤o)(h1:o≤19):Calls prog 119 #[.int .i64 o] w (M1 o w):=by
 rcases(show o=7∨o=8∨o=9∨o=10∨o=11∨o=12∨o=13∨o=14∨o=15∨o=16∨o=17∨o=18∨o=19 by omega)with rfl|rfl|rfl|rfl|rfl|rfl|rfl|rfl|rfl|rfl|rfl|rfl|rfl
 ·exact P6 _ (by decide) w
 ·exact P6 _ (by decide) w
 ·exact P6 _ (by decide) w
 ·exact P6 _ (by decide) w
 ·exact P6 _ (by decide) w
 ·exact P6 _ (by decide) w
 ·exact P6 _ (by decide) w
 ·exact X6 _ (by decide) w
 ·exact X6 _ (by decide) w
 ·exact X6 _ (by decide) w
 ·exact X6 _ (by decide) w
 ·exact X6 _ (by decide) w
 ·exact X6 _ (by decide) w
theorem A3Z(o:Int)(w:World)(h0:20≤o)(h1:o≤36):Calls prog 120 #[.int .i64 o] w (M1 o w):=by
 rcases(show o=20∨o=21∨o=22∨o=23∨o=24∨o=25∨o=26∨o=27∨o=28∨o=29∨o=30∨o=31∨o=32∨o=33∨o=34∨o=35∨o=36 by omega)with rfl|rfl|rfl|rfl|rfl|rfl|rfl|rfl|rfl|rfl|rfl|rfl|rfl|rfl|rfl|rfl|rfl
 ·exact A9R w
 ·exact A4r _ (by decide) w
 ·exact A4r _ (by decide) w
 ·exact A4r _ (by decide) w
 ·exact A6p _ (by decide) w
 ·exact A6p _ (by decide) w
 ·exact A6q _ (by decide) w
 ·exact A6q _ (by decide) w
 ·exact A9Q w
 ·exact A9P w
 ·exact A9O w
 ·exact A9N w
 ·exact A9M w
 ·exact A9L w
 ·exact A9K w
 ·exact A9J w
 ·exact A9I w
def A6x(w:World)(e:Ending)(w':World):Prop:=e= .returned (.tuple #[.agg #[.nilFunc,.slice none 0 0,.nilFunc],.bool false])∧Below w.heap.size w w'
theorem A3Y(o:Int)(w:World)(h:o<20∨36<o):Calls prog 120 #[.int .i64 o] w (A6x w):=by
 have z20:(o==20)=false:=by simp;omega
 have z21:(o==21)=false:=by simp;omega
 have z22:(o==22)=false:=by simp;omega
 have z23:(o==23)=false:=by simp;omega
 have z24:(o==24)=false:=by simp;omega
 have z25:(o==25)=false:=by simp;omega
 have z26:(o==26)=false:=by simp;omega
 have z27:(o==27)=false:=by simp;omega
 have z28:(o==28)=false:=by simp;omega
 have z29:(o==29)=false:=by simp;omega
 have z30:(o==30)=false:=by simp;omega
 have z31:(o==31)=false:=by simp;omega
 have z32:(o==32)=false:=by simp;omega
 have z33:(o==33)=false:=by simp;omega
 have z34:(o==34)=false:=by simp;omega
 have z35:(o==35)=false:=by simp;omega
 have z36:(o==36)=false:=by simp;omega
 clear h;go_enter func120,ntmps120;go_wp2_with fail
 exact bodyPost_ret (v:=.tuple #[.agg #[.nilFunc,.slice none 0 0,.nilFunc],.bool false]) (by simp[results,results120,go_sem]) rfl ⟨rfl,(Below.refl _ _).alloc (Nat.le_refl _) _⟩
theorem A1z(o:Int)(w:World)(h:o<0∨36<o):Calls prog 93 #[.int .i64 o] w (A6x w):=by
 rcases h with h|h
 ·have d0:decide (0≤o)=false:=decide_eq_false (by omega);have d1:decide (7≤o)=false:=decide_eq_false (by omega);exact A8t
 ·have d0:decide (0≤o)=true:=decide_eq_true (by omega);have d2:decide (o≤6)=false:=decide_eq_false (by omega);have d1:decide (7≤o)=true:=decide_eq_true (by omega);have d3:decide (o≤19)=false:=decide_eq_false (by omega);exact A8t
theorem Knd.shape{base:Nat}{w:World}{k:Value}{o:Int}(h:Knd base w k o):∃(FF WW:FuncId) (cF cW:Array Value) (g:Nat),k= .agg #[.func (.func FF) #[] cF,.slice (some ⟨g,0,none⟩) (szI o).length (szI o).length,.func (.func WW) #[] cW]:=by
 obtain⟨F,W,cF,cW,g,T,h1,_⟩:=h;exact⟨F,W,cF,cW,g,h1⟩
theorem N2(o:Int)(w:World)(h0:0≤o)(h1:o≤36):Calls prog 93 #[.int .i64 o] w (M1 o w):=by
 have d0:decide (0≤o)=true:=decide_eq_true (by omega);by_cases c6:o≤6
 ·have d2:decide (o≤6)=true:=decide_eq_true (by omega);go_enter func93,ntmps93;go_wp2_with((go_at_call 118;refine(A1s _ _ (by omega) (by omega)).mono ?_);rintro e w1 ⟨k,rfl,hk,hb⟩;have HK:=hid hk;obtain⟨F,W,cF,cW,g,rfl⟩:=hk.shape;clear hk;obtain⟨⟨z0,z1,z2⟩,⟨f0,f1,f2⟩,hz⟩:=E5 hb)
  exact bodyPost_ret (v:=.tuple #[.agg #[.func (.func F) #[] cF,.slice (some ⟨g,0,none⟩) (szI o).length (szI o).length,.func (.func W) #[] cW],.bool true]) (by simp[results,results93,go_sem,z0,z1,z2,hz]) rfl
   ⟨_,rfl,((HK.out.keep (by simp) (fun b hb _=>E4 (by rw[World.size_alloc]at hb;omega))).mono (by rw[World.size_alloc];omega)),A9 (A9 (A9 (C9 hb) (Nat.le_refl _) 0 _) (Nat.le_refl _) 1 _) (Nat.le_refl _) 2 _⟩
 ·have d2:decide (o≤6)=false:=decide_eq_false (by omega);have d1:decide (7≤o)=true:=decide_eq_true (by omega);by_cases c19:o≤19
  ·have d3:decide (o≤19)=true:=decide_eq_true (by omega);go_enter func93,ntmps93;go_wp2_with((go_at_call 119;refine(A0D _ _ (by omega) (by omega)).mono ?_);rintro e w1 ⟨k,rfl,hk,hb⟩;have HK:=hid hk;obtain⟨F,W,cF,cW,g,rfl⟩:=hk.shape;clear hk;obtain⟨⟨z0,z1,z2⟩,⟨f0,f1,f2⟩,hz⟩:=E5 hb)
   exact bodyPost_ret (v:=.tuple #[.agg #[.func (.func F) #[] cF,.slice (some ⟨g,0,none⟩) (szI o).length (szI o).length,.func (.func W) #[] cW],.bool true]) (by simp[results,results93,go_sem,z0,z1,z2,hz]) rfl
    ⟨_,rfl,((HK.out.keep (by simp) (fun b hb _=>E4 (by rw[World.size_alloc]at hb;omega))).mono (by rw[World.size_alloc];omega)),A9 (A9 (A9 (C9 hb) (Nat.le_refl _) 0 _) (Nat.le_refl _) 1 _) (Nat.le_refl _) 2 _⟩
  ·have d3:decide (o≤19)=false:=decide_eq_false (by omega);go_enter func93,ntmps93;go_wp2_with((go_at_call 120;refine(A3Z _ _ (by omega) (by omega)).mono ?_);rintro e w1 ⟨k,rfl,hk,hb⟩;have HK:=hid hk;obtain⟨F,W,cF,cW,g,rfl⟩:=hk.shape;clear hk;obtain⟨⟨z0,z1,z2⟩,⟨f0,f1,f2⟩,hz⟩:=E5 hb)
   exact bodyPost_ret (v:=.tuple #[.agg #[.func (.func F) #[] cF,.slice (some ⟨g,0,none⟩) (szI o).length (szI o).length,.func (.func W) #[] cW],.bool true]) (by simp[results,results93,go_sem,z0,z1,z2,hz]) rfl
    ⟨_,rfl,((HK.out.keep (by simp) (fun b hb _=>E4 (by rw[World.size_alloc]at hb;omega))).mono (by rw[World.size_alloc];omega)),A9 (A9 (A9 (C9 hb) (Nat.le_refl _) 0 _) (Nat.le_refl _) 1 _) (Nat.le_refl _) 2 _⟩
def A5Y(r z:Int)(l:List Int):Prop:=decide (0≤r)=l.contains z
theorem A3c(l:List Int)(v:Value)(z:Int)(w:World)(hv:Ints .i64 w v l):Calls prog 121 #[v,.int .i64 z] w fun e w'=>∃r:Int,e= .returned (.int .i64 r)∧A5Y r z l∧w=w':=by
 have HV:=hid hv;obtain⟨a,c,rfl,h1,h2⟩:=hv.shape;clear hv;go_enter func121,ntmps121;go_wp2_with fail
 go_loop [8] (fun i=>∃j:Nat,j≤l.length∧i= .int .i64 j∧Hid (¬z∈l.take j)) (fun i=>l.length-(intOf i).toNat)
 case atStart=>exact⟨0,Nat.zero_le _,rfl,by simp[Hid]⟩
 case round=>
  obtain⟨j,hj,rfl,hno⟩:=hrel;by_cases hlt:j<l.length
  ·obtain⟨b,q,c2,e',_,hbl,hc⟩:=HV.out.at hlt;cases e';have i0:(0:Int)≤(j:Int):=by omega
   have i1:(j:Int)<l.length:=by omega
   have HG:Hid (l.getD j 0=l[j]):=by show _=_;rw[List.getD_eq_getElem?_getD,List.getElem?_eq_getElem hlt];rfl
   have HT:Hid (l.take (j+1)=l.take j++[l[j]]):=List.take_succ_eq_append_getElem hlt;rw[HG.out]at hc;have HM:Hid (l[j]∈l):=List.getElem_mem hlt;generalize l[j]=y at*
   cases hz:(z==y)
   ·have HZ:Hid (z≠y):=by show z≠y;simpa using hz
    go_wp2_with fail
    go_round
    case rel=>exact⟨j+1,by omega,by go_num,by show¬_;rw[HT.out,List.mem_append];rintro(h|h);exact hno.out h;exact HZ.out (by simpa using h)⟩
    case measure=>simp[intOf];omega
   ·have HZ:Hid (z=y):=by show z=y;simpa using hz
    go_wp2_with fail
    go_ret;exact⟨_,rfl,by unfold A5Y;rw[HZ.out];simp[HM.out],rfl⟩
  ·obtain rfl:j=l.length:=by omega
   go_wp2_with fail
   go_ret;refine⟨_,rfl,?_,rfl⟩;have:=hno.out;rw[List.take_length]at this;unfold A5Y;simp[this]
theorem Q0(l:List Int)(v:Value)(z:Int)(w:World)(hv:Ints .i64 w v l):Calls prog 94 #[v,.int .i64 z] w fun e w'=>e= .returned (.bool (l.contains z))∧w=w':=by
 have HV:=hid hv;obtain⟨a,c,rfl,h1,h2⟩:=hv.shape;clear hv;go_enter func94,ntmps94;go_wp2_with((go_at_call 121;refine(A3c l _ z _ HV.out).mono ?_);rintro e w1 ⟨r,rfl,hr,rfl⟩)
 go_ret;exact⟨N6 hr,rfl⟩
theorem A9C{p:Prop}(h:p:=by
 go_enter func64,ntmps64;go_wp2_with(first|((go_at_call 93;refine(C0.out _).mono ?_);rintro e w1 ⟨k,rfl,hk,hb⟩;obtain⟨F,W,cF,cW,g,rfl⟩:=hk.shape;obtain⟨eF,eW,hu⟩:=hk.use;clear hk;have HU:=hid (hu _ (show Since w1 (w1.alloc (.cells #[.func (.func F) #[] cF,.slice (some ⟨g,0,none⟩) (szI o).length (szI o).length,.func (.func W) #[] cW] 178))from(Below.refl _ _).alloc (Nat.le_refl _) _));clear hu;have HB:=hid hb;have x0:w1.cell? ⟨w.heap.size,0,none⟩=some (.int .i64 o):=D3 hb 0;have x1:w1.cell? ⟨w.heap.size,1,none⟩=some (.int .i64 d):=D3 hb 1;have x2:w1.cell? ⟨w.heap.size,2,none⟩=some (.int .i64 s):=D3 hb 2;have x3:w1.cell? ⟨w.heap.size,3,none⟩=some (.int .i64 z):=D3 hb 3;have x4:w1.cell? ⟨w.heap.size,4,none⟩=some (.int .i64 i):=D3 hb 4;have hlt:w.heap.size<w1.heap.size:=(by have:=hb.size;simp at this;omega);clear hb)|((go_at_call 94;refine(C1.out _ _ HU.out.1).mono ?_);rintro e w2 ⟨rfl,rfl⟩)|(with_reducible refine(C2.out _ _ _ HU.out.2.1).mono ?_;rintro e w3 ⟨rfl,hb3⟩))
 go_ret;exact⟨rfl,A8 (A8 (C9 HB.out) ((Below.refl _ _).alloc (Nat.le_refl _) _)) hb3⟩
 ):p:=h
theorem Knd.use{base:Nat}{w:World}{o:Int}{FF WW:FuncId}{cF cW:Array Value}{g n m:Nat}(h:Knd base w (.agg #[.func (.func FF) #[] cF,.slice (some ⟨g,0,none⟩) n m,.func (.func WW) #[] cW]) o):
  (∀(args:Array Value) (w:World),(callFunc FF args).run prog w= .ok (.enter FF args) w)∧(∀(args:Array Value) (w:World),(callFunc WW args).run prog w= .ok (.enter WW args) w)∧∀wk,Since w wk→
   Ints .i64 wk (.slice (some ⟨g,0,none⟩) n m) (szI o)∧
   (∀x:Ins,x.o=o→x.z∈szI o→Calls prog FF (#[o9 x]++cF) wk fun e w'=>e= .returned (.bool (J9 x))∧Below wk.heap.size wk w')∧
   (∀x:Ins,x.o=o→okI x=true→Calls prog WW (#[o9 x]++cW) wk fun e w'=>∃v,e= .returned v∧RowI w' wk.heap.size 5 .u8 v (G8 x)∧Below wk.heap.size wk w'):=by
 obtain⟨F,W,cF',cW',g',T,h1,h2,h3,h4,h5⟩:=h;simp only[Value.agg.injEq,Array.mk.injEq,List.cons.injEq,Value.func.injEq,Fn.func.injEq,Value.slice.injEq,Option.some.injEq,Addr.mk.injEq,and_true,true_and]at h1;obtain⟨⟨rfl,rfl⟩,⟨rfl,rfl,rfl⟩,rfl,rfl⟩:=h1;exact⟨h2,h3,fun wk hs=>h5 wk hs.size fun b hb=>hs.block b (h4 b hb).2⟩
def vaI(x:Ins):Int:=if okI x=true then 0 else 1
theorem A9v(o d s z i:Int)(w:World)(o0:0≤o)(o1:o≤36)(hz:(szI o).contains z=false):Calls prog 64 #[.agg #[.int .i64 o,.int .i64 d,.int .i64 s,.int .i64 z,.int .i64 i]] w fun e w'=>e= .returned (.int .i64 1)∧Below w.heap.size w w':=by
 have C0:=hid (fun w=>N2 o w o0 o1);have C1:Hid (∀(w:World) (v:Value),Ints .i64 w v (szI o)→Calls prog 94 #[v,.int .i64 z] w fun e w'=>e= .returned (.bool false)∧w=w'):=fun w v h=>by have h1:=Q0 (szI o) v z w h;rw[hz]at h1;exact h1
 clear o0 o1 hz;go_enter func64,ntmps64;go_wp2_with(first|((go_at_call 93;refine(C0.out _).mono ?_);rintro e w1 ⟨k,rfl,hk,hb⟩;obtain⟨F,W,cF,cW,g,rfl⟩:=hk.shape;obtain⟨eF,eW,hu⟩:=hk.use;clear hk;have HU:=hid (hu _ (show Since w1 (w1.alloc (.cells #[.func (.func F) #[] cF,.slice (some ⟨g,0,none⟩) (szI o).length (szI o).length,.func (.func W) #[] cW] 178))from(Below.refl _ _).alloc (Nat.le_refl _) _));clear hu;have HB:=hid hb;have x0:w1.cell? ⟨w.heap.size,0,none⟩=some (.int .i64 o):=D3 hb 0;have x1:w1.cell? ⟨w.heap.size,1,none⟩=some (.int .i64 d):=D3 hb 1;have x2:w1.cell? ⟨w.heap.size,2,none⟩=some (.int .i64 s):=D3 hb 2;have x3:w1.cell? ⟨w.heap.size,3,none⟩=some (.int .i64 z):=D3 hb 3;have x4:w1.cell? ⟨w.heap.size,4,none⟩=some (.int .i64 i):=D3 hb 4;have hlt:w.heap.size<w1.heap.size:=(by have:=hb.size;simp at this;omega);clear hb)|((go_at_call 94;refine(C1.out _ _ HU.out.1).mono ?_);rintro e w2 ⟨rfl,rfl⟩))
 go_ret;exact⟨rfl,A8 (C9 HB.out) ((Below.refl _ _).alloc (Nat.le_refl _) _)⟩
theorem A9y(o d s z i:Int)(w:World)(o0:0≤o)(o1:o≤36)(hz:(szI o).contains z=true)(hf:J9 ⟨o,d,s,z,i⟩=false):Calls prog 64 #[.agg #[.int .i64 o,.int .i64 d,.int .i64 s,.int .i64 z,.int .i64 i]] w fun e w'=>e= .returned (.int .i64 1)∧Below w.heap.size w w':=by
 have C0:=hid (fun w=>N2 o w o0 o1);have C1:Hid (∀(w:World) (v:Value),Ints .i64 w v (szI o)→Calls prog 94 #[v,.int .i64 z] w fun e w'=>e= .returned (.bool true)∧w=w'):=fun w v h=>by have h1:=Q0 (szI o) v z w h;rw[hz]at h1;exact h1
 have C2:Hid (∀(w:World) (G:FuncId) (cs:Array Value),(∀x:Ins,x.o=o→x.z∈szI o→Calls prog G (#[o9 x]++cs) w fun e w'=>e= .returned (.bool (J9 x))∧Below w.heap.size w w')→Calls prog G (#[.agg #[.int .i64 o,.int .i64 d,.int .i64 s,.int .i64 z,.int .i64 i]]++cs) w fun e w'=>e= .returned (.bool false)∧Below w.heap.size w w'):=fun w G cs h=>by
  have h1:=h ⟨o,d,s,z,i⟩ rfl (by simpa using hz);rw[hf]at h1;exact h1
 clear o0 o1 hz hf;exact A9C
theorem A9w(o d s z i:Int)(w:World)(o0:0≤o)(o1:o≤36)(hz:(szI o).contains z=true)(hf:J9 ⟨o,d,s,z,i⟩=true):Calls prog 64 #[.agg #[.int .i64 o,.int .i64 d,.int .i64 s,.int .i64 z,.int .i64 i]] w fun e w'=>e= .returned (.int .i64 0)∧Below w.heap.size w w':=by
 have C0:=hid (fun w=>N2 o w o0 o1);have C1:Hid (∀(w:World) (v:Value),Ints .i64 w v (szI o)→Calls prog 94 #[v,.int .i64 z] w fun e w'=>e= .returned (.bool true)∧w=w'):=fun w v h=>by have h1:=Q0 (szI o) v z w h;rw[hz]at h1;exact h1
 have C2:Hid (∀(w:World) (G:FuncId) (cs:Array Value),(∀x:Ins,x.o=o→x.z∈szI o→Calls prog G (#[o9 x]++cs) w fun e w'=>e= .returned (.bool (J9 x))∧Below w.heap.size w w')→Calls prog G (#[.agg #[.int .i64 o,.int .i64 d,.int .i64 s,.int .i64 z,.int .i64 i]]++cs) w fun e w'=>e= .returned (.bool true)∧Below w.heap.size w w'):=fun w G cs h=>by
  have h1:=h ⟨o,d,s,z,i⟩ rfl (by simpa using hz);rw[hf]at h1;exact h1
 clear o0 o1 hz hf;exact A9C
theorem A9x(o d s z i:Int)(w:World)(ho:o<0∨36<o):Calls prog 64 #[.agg #[.int .i64 o,.int .i64 d,.int .i64 s,.int .i64 z,.int .i64 i]] w fun e w'=>e= .returned (.int .i64 1)∧Below w.heap.size w w':=by
 have C0:=hid (fun w=>A1z o w ho);clear ho;go_enter func64,ntmps64;go_wp2_with((go_at_call 93;refine(C0.out _).mono ?_);rintro e w1 ⟨rfl,hb⟩)
 go_ret;exact⟨rfl,A8 (C9 hb) ((Below.refl _ _).alloc (Nat.le_refl _) _)⟩
theorem u5(x:Ins)(w:World):Calls prog 64 #[o9 x] w fun e w'=>e= .returned (.int .i64 (vaI x))∧Below w.heap.size w w':=by
 obtain⟨o,d,s,z,i⟩:=x;by_cases ho:0≤o∧o≤36
 ·cases hz:(szI o).contains z
  ·have e:vaI ⟨o,d,s,z,i⟩=1:=by unfold vaI okI;rw[hz];rfl
   rw[e];exact A9v o d s z i w ho.1 ho.2 hz
  ·cases hf:J9 ⟨o,d,s,z,i⟩
   ·have e:vaI ⟨o,d,s,z,i⟩=1:=by unfold vaI okI;rw[hz,hf];rfl
    rw[e];exact A9y o d s z i w ho.1 ho.2 hz hf
   ·have e:vaI ⟨o,d,s,z,i⟩=0:=by unfold vaI okI;rw[hz,hf];rfl
    rw[e];exact A9w o d s z i w ho.1 ho.2 hz hf
 ·have e:vaI ⟨o,d,s,z,i⟩=1:=by
   unfold vaI;rw[if_neg fun h=>ho (A2i h)]
  rw[e];exact A9x o d s z i w (by omega)
theorem l6{x:Ins}(h:okI x=true):0<(G8 x).length∧(G8 x).length≤8:=by
 obtain⟨o,d,s,z,i⟩:=x;have hz:=H8 h;have ho:=A2i h;simp only at ho hz;have hz3:z=8∨z=16∨z=32:=by
  unfold szI at hz
  repeat(first|(split at hz;·simp at hz;omega)|(simp at hz;done))
 rcases(show o=0∨o=1∨o=2∨o=3∨o=4∨o=5∨o=6∨o=7∨o=8∨o=9∨o=10∨o=11∨o=12∨o=13∨o=14∨o=15∨o=16∨o=17∨o=18∨o=19∨o=20∨o=21∨o=22∨o=23∨o=24∨o=25∨o=26∨o=27∨o=28∨o=29∨o=30∨o=31∨o=32∨o=33∨o=34∨o=35∨o=36 by omega)with rfl|rfl|rfl|rfl|rfl|rfl|rfl|rfl|rfl|rfl|rfl|rfl|rfl|rfl|rfl|rfl|rfl|rfl|rfl|rfl|rfl|rfl|rfl|rfl|rfl|rfl|rfl|rfl|rfl|rfl|rfl|rfl|rfl|rfl|rfl|rfl|rfl
 all_goals rcases hz3 with rfl|rfl|rfl
 all_goals first|(simp[G8,mmB,F2];done)|(unfold G8;simp[mmB,F2];split<;>simp[F2])
theorem B0O(o d s z i:Int)(w:World)(hok:okI ⟨o,d,s,z,i⟩=true)(hz:(z==16)=false):Calls prog 65 #[.agg #[.int .i64 o,.int .i64 d,.int .i64 s,.int .i64 z,.int .i64 i]] w fun e w'=>∃v,e= .returned v∧RowI w' w.heap.size 5 .u8 v (G8 ⟨o,d,s,z,i⟩)∧Below w.heap.size w w':=by
 obtain⟨i0,hi0,hz0,hz1,hz2⟩:=info_parts F8;obtain⟨o0,o1⟩:=A2i hok;have C0:=hid (fun w=>N2 o w o0 o1);have hlen:=l6 hok;have C2:Hid (∀(w:World) (G:FuncId) (cs:Array Value),(∀x:Ins,x.o=o→okI x=true→Calls prog G (#[o9 x]++cs) w fun e w'=>∃v,e= .returned v∧RowI w' w.heap.size 5 .u8 v (G8 x)∧Below w.heap.size w w')→Calls prog G (#[.agg #[.int .i64 o,.int .i64 d,.int .i64 s,.int .i64 z,.int .i64 i]]++cs) w fun e w'=>∃v,e= .returned v∧RowI w' w.heap.size 5 .u8 v (G8 ⟨o,d,s,z,i⟩)∧Below w.heap.size w w'):=fun w G cs h=>h ⟨o,d,s,z,i⟩ rfl hok
 generalize G8 ⟨o,d,s,z,i⟩=ys at*
 have HPOS:Hid (0<ys.length):=hlen.1;have HLEN:Hid (([(102:Int)]).length+ys.length≤100000):=by show _≤_;simp;omega
 have HY5:Hid (ys.length≤140737488351232):=by show _≤_;omega
 clear o0 o1 hok hlen;go_enter func65,ntmps65;go_wp2_with(first|((go_at_call 93;refine(C0.out _).mono ?_);rintro e w1 ⟨k,rfl,hk,hb⟩;obtain⟨F,W,cF,cW,g,rfl⟩:=hk.shape;obtain⟨eF,eW,hu⟩:=hk.use;clear hk;have HU:=hid (hu _ (show Since w1 (w1.alloc (.cells #[.func (.func F) #[] cF,.slice (some ⟨g,0,none⟩) (szI o).length (szI o).length,.func (.func W) #[] cW] 178))from(Below.refl _ _).alloc (Nat.le_refl _) _));clear hu;have HB:=hid hb;have x0:w1.cell? ⟨w.heap.size,0,none⟩=some (.int .i64 o):=D3 hb 0;have x1:w1.cell? ⟨w.heap.size,1,none⟩=some (.int .i64 d):=D3 hb 1;have x2:w1.cell? ⟨w.heap.size,2,none⟩=some (.int .i64 s):=D3 hb 2;have x3:w1.cell? ⟨w.heap.size,3,none⟩=some (.int .i64 z):=D3 hb 3;have x4:w1.cell? ⟨w.heap.size,4,none⟩=some (.int .i64 i):=D3 hb 4;have hlt:w.heap.size<w1.heap.size:=(by have:=hb.size;simp at this;omega);clear hb)|((with_reducible refine(C2.out _ _ _ HU.out.2.2).mono ?_);rintro e w3 ⟨v3,rfl,hr3,hb3⟩;have HB3:=hid (A8 (A8 HB.out ((Below.refl _ _).alloc (Nat.le_refl _) (.cells #[.func (.func F) #[] cF,.slice (some ⟨g,0,none⟩) (szI o).length (szI o).length,.func (.func W) #[] cW] 178))) hb3);have y3:w3.cell? ⟨w.heap.size,3,none⟩=some (.int .i64 z):=D3 HB3.out 3;have HS3:=hid (C9 HB3.out).size;have HR3:=hid (hr3.mono (show w.heap.size≤_ by simp;omega));clear hr3 hb3;obtain⟨a3,n3,rfl⟩:=HR3.out.shape))
 go_ret;exact⟨_,rfl,HR3.out,C9 HB3.out⟩
theorem A9p(o d s z i:Int)(w:World)(hok:okI ⟨o,d,s,z,i⟩=true)(hz:(z==16)=true):Calls prog 65 #[.agg #[.int .i64 o,.int .i64 d,.int .i64 s,.int .i64 z,.int .i64 i]] w fun e w'=>∃v,e= .returned v∧RowI w' w.heap.size 5 .u8 v (102::G8 ⟨o,d,s,z,i⟩)∧Below w.heap.size w w':=by
 obtain⟨i0,hi0,hz0,hz1,hz2⟩:=info_parts F8;obtain⟨o0,o1⟩:=A2i hok;have C0:=hid (fun w=>N2 o w o0 o1);have hlen:=l6 hok;have C2:Hid (∀(w:World) (G:FuncId) (cs:Array Value),(∀x:Ins,x.o=o→okI x=true→Calls prog G (#[o9 x]++cs) w fun e w'=>∃v,e= .returned v∧RowI w' w.heap.size 5 .u8 v (G8 x)∧Below w.heap.size w w')→Calls prog G (#[.agg #[.int .i64 o,.int .i64 d,.int .i64 s,.int .i64 z,.int .i64 i]]++cs) w fun e w'=>∃v,e= .returned v∧RowI w' w.heap.size 5 .u8 v (G8 ⟨o,d,s,z,i⟩)∧Below w.heap.size w w'):=fun w G cs h=>h ⟨o,d,s,z,i⟩ rfl hok
 generalize G8 ⟨o,d,s,z,i⟩=ys at*
 have HPOS:Hid (0<ys.length):=hlen.1;have HLEN:Hid (([(102:Int)]).length+ys.length≤100000):=by show _≤_;simp;omega
 have HY5:Hid (ys.length≤140737488351232):=by show _≤_;omega
 clear o0 o1 hok hlen;go_enter func65,ntmps65;go_wp2_with(first|((go_at_call 93;refine(C0.out _).mono ?_);rintro e w1 ⟨k,rfl,hk,hb⟩;obtain⟨F,W,cF,cW,g,rfl⟩:=hk.shape;obtain⟨eF,eW,hu⟩:=hk.use;clear hk;have HU:=hid (hu _ (show Since w1 (w1.alloc (.cells #[.func (.func F) #[] cF,.slice (some ⟨g,0,none⟩) (szI o).length (szI o).length,.func (.func W) #[] cW] 178))from(Below.refl _ _).alloc (Nat.le_refl _) _));clear hu;have HB:=hid hb;have x0:w1.cell? ⟨w.heap.size,0,none⟩=some (.int .i64 o):=D3 hb 0;have x1:w1.cell? ⟨w.heap.size,1,none⟩=some (.int .i64 d):=D3 hb 1;have x2:w1.cell? ⟨w.heap.size,2,none⟩=some (.int .i64 s):=D3 hb 2;have x3:w1.cell? ⟨w.heap.size,3,none⟩=some (.int .i64 z):=D3 hb 3;have x4:w1.cell? ⟨w.heap.size,4,none⟩=some (.int .i64 i):=D3 hb 4;have hlt:w.heap.size<w1.heap.size:=(by have:=hb.size;simp at this;omega);clear hb)|((with_reducible refine(C2.out _ _ _ HU.out.2.2).mono ?_);rintro e w3 ⟨v3,rfl,hr3,hb3⟩;have HB3:=hid (A8 (A8 HB.out ((Below.refl _ _).alloc (Nat.le_refl _) (.cells #[.func (.func F) #[] cF,.slice (some ⟨g,0,none⟩) (szI o).length (szI o).length,.func (.func W) #[] cW] 178))) hb3);have y3:w3.cell? ⟨w.heap.size,3,none⟩=some (.int .i64 z):=D3 HB3.out 3;have HS3:=hid (C9 HB3.out).size;have HR3:=hid (hr3.mono (show w.heap.size≤_ by simp;omega));clear hr3 hb3;obtain⟨a3,n3,rfl⟩:=HR3.out.shape)|(at_builtin;refine L0 rfl _ _ 28 rfl w.heap.size 5 i0 1 underlying28 hi0 hz0 hz1 hz2 (by decide) _ [102] rfl (RowI.lit w3 #[.int .u8 102] [102] .u8 5 w.heap.size 1 HS3.out rfl rfl (by unfold maxLen;simp)) _ ys rfl ((HR3.out.below ((Below.refl _ _).alloc (Nat.le_refl _) _)).ints HY5.out) HPOS.out HLEN.out ?c5 ?_))
 case c5=>have:=HS3.out;simp;omega
 intro v9 w9 hr9 hb9;have HR9:=hid hr9;have HB9:Hid (Below w.heap.size w w9):=((C9 HB3.out).trans (((Below.refl w3.heap.size w3).alloc (Nat.le_refl _) _).mono HS3.out)).trans hb9;clear hr9 hb9;go_wp2_with fail
 go_ret;exact⟨_,rfl,HR9.out,HB9.out⟩
theorem A3l(x:Ins)(w:World)(hok:okI x=true):Calls prog 65 #[o9 x] w fun e w'=>∃v,e= .returned v∧RowI w' w.heap.size 5 .u8 v (V3 x)∧Below w.heap.size w w':=by
 obtain⟨o,d,s,z,i⟩:=x;unfold V3;by_cases c:z=16
 ·rw[if_pos c];exact A9p o d s z i w hok (by simpa using c)
 ·rw[if_neg c];exact B0O o d s z i w hok (by simpa using c)
theorem A0C{x:Ins}(h:okI x=true):0<(V3 x).length∧(V3 x).length≤9:=by
 have:=l6 h;unfold V3
 split
 ·simp;omega
 ·omega
end Go.Proofs.YtajljbmeaeeknaaGreat
