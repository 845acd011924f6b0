/- -/
import Derived.Test.YtdojafpjipcbjaaGreatK2
import Derived.Test.YtdojafpjipcbjaaGreatK5
open Go.Proofs.Tryz
open Go.Lib (hid)
set_option maxHeartbeats 1000000
namespace Go.Proofs.YtdojafpjipcbjaaGreat
open Go.RowKit
set_option linter.unusedVariables false
set_option linter.unusedSimpArgs false
theorem B1T{p:Prop}(h:p:=by
 cases ze<;>cases si<;>cases ov<;>skip
 all_goals go_enter func82,ntmps82
 all_goals go_wp2_with(first|((go_at_call 103;with_reducible refine(Cze.out _ _ (by first|assumption|(simp[go_sem];done))).mono ?_);rintro e w' ⟨rfl,rfl⟩)|((go_at_call 103;with_reducible refine(Csi.out _ _ (by first|assumption|(simp[go_sem];done))).mono ?_);rintro e w' ⟨rfl,rfl⟩)|((go_at_call 103;with_reducible refine(Cov.out _ _ (by first|assumption|(simp[go_sem];done))).mono ?_);rintro e w' ⟨rfl,rfl⟩))
 all_goals go_ret
 all_goals exact⟨rfl,HB.out⟩
 ):p:=h
theorem B1K{p:Prop}(h:p:=by
 cases ca<;>cases ze<;>skip
 all_goals go_enter func82,ntmps82
 all_goals go_wp2_with(first|((go_at_call 103;with_reducible refine(Cca.out _ _ (by first|assumption|(simp[go_sem];done))).mono ?_);rintro e w' ⟨rfl,rfl⟩)|((go_at_call 103;with_reducible refine(Cze.out _ _ (by first|assumption|(simp[go_sem];done))).mono ?_);rintro e w' ⟨rfl,rfl⟩))
 all_goals go_ret
 all_goals exact⟨rfl,HB.out⟩
 ):p:=h
theorem B1J{p:Prop}(h:p:=by
 cases si<;>cases ov<;>skip
 all_goals go_enter func82,ntmps82
 all_goals go_wp2_with(first|((go_at_call 103;with_reducible refine(Csi.out _ _ (by first|assumption|(simp[go_sem];done))).mono ?_);rintro e w' ⟨rfl,rfl⟩)|((go_at_call 103;with_reducible refine(Cov.out _ _ (by first|assumption|(simp[go_sem];done))).mono ?_);rintro e w' ⟨rfl,rfl⟩))
 all_goals go_ret
 all_goals exact⟨rfl,HB.out⟩
 ):p:=h
theorem B0u{p:Prop}(h:p:=by
 cases ov<;>skip
 all_goals go_enter func82,ntmps82
 all_goals go_wp2_with(first|((go_at_call 103;with_reducible refine(Cov.out _ _ (by first|assumption|(simp[go_sem];done))).mono ?_);rintro e w' ⟨rfl,rfl⟩))
 all_goals go_ret
 all_goals exact⟨rfl,HB.out⟩
 ):p:=h
theorem B0t{p:Prop}(h:p:=by
 cases ca<;>skip
 all_goals go_enter func82,ntmps82
 all_goals go_wp2_with(first|((go_at_call 103;with_reducible refine(Cca.out _ _ (by first|assumption|(simp[go_sem];done))).mono ?_);rintro e w' ⟨rfl,rfl⟩))
 all_goals go_ret
 all_goals exact⟨rfl,HB.out⟩
 ):p:=h
theorem B0s{p:Prop}(h:p:=by
 cases ze<;>skip
 all_goals go_enter func82,ntmps82
 all_goals go_wp2_with(first|((go_at_call 103;with_reducible refine(Cze.out _ _ (by first|assumption|(simp[go_sem];done))).mono ?_);rintro e w' ⟨rfl,rfl⟩))
 all_goals go_ret
 all_goals exact⟨rfl,HB.out⟩
 ):p:=h
theorem B0r{p:Prop}(h:p:=by
 cases si<;>skip
 all_goals go_enter func82,ntmps82
 all_goals go_wp2_with(first|((go_at_call 103;with_reducible refine(Csi.out _ _ (by first|assumption|(simp[go_sem];done))).mono ?_);rintro e w' ⟨rfl,rfl⟩))
 all_goals go_ret
 all_goals exact⟨rfl,HB.out⟩
 ):p:=h
def caF(f:Int):Bool:=f%2==1
def zeF(f:Int):Bool:=f / 2%2==1
def siF(f:Int):Bool:=f / 4%2==1
def ovF(f:Int):Bool:=f / 8%2==1
def hoB(c f:Int):Bool:=
 (if c / 2=0 then ovF f else if c / 2=1 then caF f else if c / 2=2 then zeF f else if c / 2=3 then(caF f||zeF f)else if c / 2=4 then siF f
 else if c / 2=6 then(siF f !=ovF f)else if c / 2=7 then(zeF f||(siF f !=ovF f))else false) !=(c%2==1)
theorem p7{c:Int}(h:isC c=true):c=0∨c=1∨c=2∨c=3∨c=4∨c=5∨c=6∨c=7∨c=8∨c=9∨c=12∨c=13∨c=14∨c=15:=by
 simp[isC]at h;omega
theorem G6(q f:Int)(r:Bool)(b:Nat)(w:World)(hc:w.cell? ⟨b,0,none⟩=some (.int .i64 f))(h:(bits .and .i64 f q !=0)=r):Calls prog 103 #[.int .i64 q,.pointer (some ⟨b,0,none⟩)] w fun e w'=>e= .returned (.bool r)∧w=w':=by
 go_enter func103,ntmps103;go_wp2_with fail
 go_ret;exact⟨rfl,rfl⟩
theorem I8{f:Int}(h0:0≤f)(h1:f≤15):(bits .and .i64 f 1 !=0)=caF f∧(bits .and .i64 f 2 !=0)=zeF f∧(bits .and .i64 f 4 !=0)=siF f∧(bits .and .i64 f 8 !=0)=ovF f:=by
 rcases(show f=0∨f=1∨f=2∨f=3∨f=4∨f=5∨f=6∨f=7∨f=8∨f=9∨f=10∨f=11∨f=12∨f=13∨f=14∨f=15 by omega)with rfl|rfl|rfl|rfl|rfl|rfl|rfl|rfl|rfl|rfl|rfl|rfl|rfl|rfl|rfl|rfl<;>decide
theorem B3U(f:Int)(w:World)(h0:0≤f)(h1:f≤15):Calls prog 82 #[.int .i64 0,.int .i64 f] w fun e w'=>e= .returned (.bool (hoB 0 f))∧Below w.heap.size w w':=by
 have HB:=hid ((Below.refl w.heap.size w).alloc (Nat.le_refl _) (.cells #[.int .i64 f] 3));obtain⟨k1,k2,k3,k4⟩:=I8 h0 h1;have Cov:Hid (∀w (b:Nat),w.cell? ⟨b,0,none⟩=some (.int .i64 f)→Calls prog 103 #[.int .i64 8,.pointer (some ⟨b,0,none⟩)] w fun e w'=>e= .returned (.bool (ovF f))∧w=w'):=fun w b hc=>G6 8 f _ b w hc k4
 clear k1 k2 k3 k4 h0 h1;have e:hoB 0 f=((ovF f) !=false):=rfl;rw[e];clear e;generalize ovF f=ov at*
 exact B0u
theorem B0L(f:Int)(w:World)(h0:0≤f)(h1:f≤15):Calls prog 49 #[.int .i64 0,.int .i64 f] w fun e w'=>e= .returned (.bool (hoB 0 f))∧Below w.heap.size w w':=by
 have e:hoB 0 f=((ovF f) !=false):=rfl;rw[e];clear e;have fb:f=2*(f / 2)+f%2:=by omega
 obtain⟨ca,hca⟩:∃b,(f%2==1)=b:=⟨_,rfl⟩
 obtain⟨ze,hze⟩:∃b,(f / 2%2==1)=b:=⟨_,rfl⟩
 obtain⟨si,hsi⟩:∃b,(f / 4%2==1)=b:=⟨_,rfl⟩
 obtain⟨ov,hov⟩:∃b,(f / 8%2==1)=b:=⟨_,rfl⟩
 rw[show ovF f=ov from hov];clear fb;cases ov<;>skip
 all_goals go_enter func49,ntmps49
 all_goals go_wp2_with fail
 all_goals go_ret
 all_goals exact⟨rfl,Below.refl _ _⟩
theorem B3T(f:Int)(w:World)(h0:0≤f)(h1:f≤15):Calls prog 82 #[.int .i64 1,.int .i64 f] w fun e w'=>e= .returned (.bool (hoB 1 f))∧Below w.heap.size w w':=by
 have HB:=hid ((Below.refl w.heap.size w).alloc (Nat.le_refl _) (.cells #[.int .i64 f] 3));obtain⟨k1,k2,k3,k4⟩:=I8 h0 h1;have Cov:Hid (∀w (b:Nat),w.cell? ⟨b,0,none⟩=some (.int .i64 f)→Calls prog 103 #[.int .i64 8,.pointer (some ⟨b,0,none⟩)] w fun e w'=>e= .returned (.bool (ovF f))∧w=w'):=fun w b hc=>G6 8 f _ b w hc k4
 clear k1 k2 k3 k4 h0 h1;have e:hoB 1 f=((ovF f) !=true):=rfl;rw[e];clear e;generalize ovF f=ov at*
 exact B0u
theorem B0K(f:Int)(w:World)(h0:0≤f)(h1:f≤15):Calls prog 49 #[.int .i64 1,.int .i64 f] w fun e w'=>e= .returned (.bool (hoB 1 f))∧Below w.heap.size w w':=by
 have e:hoB 1 f=((ovF f) !=true):=rfl;rw[e];clear e;have fb:f=2*(f / 2)+f%2:=by omega
 obtain⟨ca,hca⟩:∃b,(f%2==1)=b:=⟨_,rfl⟩
 obtain⟨ze,hze⟩:∃b,(f / 2%2==1)=b:=⟨_,rfl⟩
 obtain⟨si,hsi⟩:∃b,(f / 4%2==1)=b:=⟨_,rfl⟩
 obtain⟨ov,hov⟩:∃b,(f / 8%2==1)=b:=⟨_,rfl⟩
 rw[show ovF f=ov from hov];clear fb;cases ov<;>skip
 all_goals go_enter func49,ntmps49
 all_goals go_wp2_with fail
 all_goals go_ret
 all_goals exact⟨rfl,Below.refl _ _⟩
theorem B3S(f:Int)(w:World)(h0:0≤f)(h1:f≤15):Calls prog 82 #[.int .i64 2,.int .i64 f] w fun e w'=>e= .returned (.bool (hoB 2 f))∧Below w.heap.size w w':=by
 have HB:=hid ((Below.refl w.heap.size w).alloc (Nat.le_refl _) (.cells #[.int .i64 f] 3));obtain⟨k1,k2,k3,k4⟩:=I8 h0 h1;have Cca:Hid (∀w (b:Nat),w.cell? ⟨b,0,none⟩=some (.int .i64 f)→Calls prog 103 #[.int .i64 1,.pointer (some ⟨b,0,none⟩)] w fun e w'=>e= .returned (.bool (caF f))∧w=w'):=fun w b hc=>G6 1 f _ b w hc k1
 clear k1 k2 k3 k4 h0 h1;have e:hoB 2 f=((caF f) !=false):=rfl;rw[e];clear e;generalize caF f=ca at*
 exact B0t
theorem B0J(f:Int)(w:World)(h0:0≤f)(h1:f≤15):Calls prog 49 #[.int .i64 2,.int .i64 f] w fun e w'=>e= .returned (.bool (hoB 2 f))∧Below w.heap.size w w':=by
 have e:hoB 2 f=((caF f) !=false):=rfl;rw[e];clear e;have fb:f=2*(f / 2)+f%2:=by omega
 obtain⟨ca,hca⟩:∃b,(f%2==1)=b:=⟨_,rfl⟩
 rw[show caF f=ca from hca];obtain⟨ze,hze⟩:∃b,(f / 2%2==1)=b:=⟨_,rfl⟩
 obtain⟨si,hsi⟩:∃b,(f / 4%2==1)=b:=⟨_,rfl⟩
 obtain⟨ov,hov⟩:∃b,(f / 8%2==1)=b:=⟨_,rfl⟩
 clear fb;cases ca<;>skip
 all_goals go_enter func49,ntmps49
 all_goals go_wp2_with fail
 all_goals go_ret
 all_goals exact⟨rfl,Below.refl _ _⟩
theorem B3R(f:Int)(w:World)(h0:0≤f)(h1:f≤15):Calls prog 82 #[.int .i64 3,.int .i64 f] w fun e w'=>e= .returned (.bool (hoB 3 f))∧Below w.heap.size w w':=by
 have HB:=hid ((Below.refl w.heap.size w).alloc (Nat.le_refl _) (.cells #[.int .i64 f] 3));obtain⟨k1,k2,k3,k4⟩:=I8 h0 h1;have Cca:Hid (∀w (b:Nat),w.cell? ⟨b,0,none⟩=some (.int .i64 f)→Calls prog 103 #[.int .i64 1,.pointer (some ⟨b,0,none⟩)] w fun e w'=>e= .returned (.bool (caF f))∧w=w'):=fun w b hc=>G6 1 f _ b w hc k1
 clear k1 k2 k3 k4 h0 h1;have e:hoB 3 f=((caF f) !=true):=rfl;rw[e];clear e;generalize caF f=ca at*
 exact B0t
theorem B0I(f:Int)(w:World)(h0:0≤f)(h1:f≤15):Calls prog 49 #[.int .i64 3,.int .i64 f] w fun e w'=>e= .returned (.bool (hoB 3 f))∧Below w.heap.size w w':=by
 have e:hoB 3 f=((caF f) !=true):=rfl;rw[e];clear e;have fb:f=2*(f / 2)+f%2:=by omega
 obtain⟨ca,hca⟩:∃b,(f%2==1)=b:=⟨_,rfl⟩
 rw[show caF f=ca from hca];obtain⟨ze,hze⟩:∃b,(f / 2%2==1)=b:=⟨_,rfl⟩
 obtain⟨si,hsi⟩:∃b,(f / 4%2==1)=b:=⟨_,rfl⟩
 obtain⟨ov,hov⟩:∃b,(f / 8%2==1)=b:=⟨_,rfl⟩
 clear fb;cases ca<;>skip
 all_goals go_enter func49,ntmps49
 all_goals go_wp2_with fail
 all_goals go_ret
 all_goals exact⟨rfl,Below.refl _ _⟩
theorem B3Q(f:Int)(w:World)(h0:0≤f)(h1:f≤15):Calls prog 82 #[.int .i64 4,.int .i64 f] w fun e w'=>e= .returned (.bool (hoB 4 f))∧Below w.heap.size w w':=by
 have HB:=hid ((Below.refl w.heap.size w).alloc (Nat.le_refl _) (.cells #[.int .i64 f] 3));obtain⟨k1,k2,k3,k4⟩:=I8 h0 h1;have Cze:Hid (∀w (b:Nat),w.cell? ⟨b,0,none⟩=some (.int .i64 f)→Calls prog 103 #[.int .i64 2,.pointer (some ⟨b,0,none⟩)] w fun e w'=>e= .returned (.bool (zeF f))∧w=w'):=fun w b hc=>G6 2 f _ b w hc k2
 clear k1 k2 k3 k4 h0 h1;have e:hoB 4 f=((zeF f) !=false):=rfl;rw[e];clear e;generalize zeF f=ze at*
 exact B0s
theorem B0H(f:Int)(w:World)(h0:0≤f)(h1:f≤15):Calls prog 49 #[.int .i64 4,.int .i64 f] w fun e w'=>e= .returned (.bool (hoB 4 f))∧Below w.heap.size w w':=by
 have e:hoB 4 f=((zeF f) !=false):=rfl;rw[e];clear e;have fb:f=2*(f / 2)+f%2:=by omega
 obtain⟨ca,hca⟩:∃b,(f%2==1)=b:=⟨_,rfl⟩
 obtain⟨ze,hze⟩:∃b,(f / 2%2==1)=b:=⟨_,rfl⟩
 rw[show zeF f=ze from hze];obtain⟨si,hsi⟩:∃b,(f / 4%2==1)=b:=⟨_,rfl⟩
 obtain⟨ov,hov⟩:∃b,(f / 8%2==1)=b:=⟨_,rfl⟩
 clear fb;cases ze<;>skip
 all_goals go_enter func49,ntmps49
 all_goals go_wp2_with fail
 all_goals go_ret
 all_goals exact⟨rfl,Below.refl _ _⟩
theorem B3P(f:Int)(w:World)(h0:0≤f)(h1:f≤15):Calls prog 82 #[.int .i64 5,.int .i64 f] w fun e w'=>e= .returned (.bool (hoB 5 f))∧Below w.heap.size w w':=by
 have HB:=hid ((Below.refl w.heap.size w).alloc (Nat.le_refl _) (.cells #[.int .i64 f] 3));obtain⟨k1,k2,k3,k4⟩:=I8 h0 h1;have Cze:Hid (∀w (b:Nat),w.cell? ⟨b,0,none⟩=some (.int .i64 f)→Calls prog 103 #[.int .i64 2,.pointer (some ⟨b,0,none⟩)] w fun e w'=>e= .returned (.bool (zeF f))∧w=w'):=fun w b hc=>G6 2 f _ b w hc k2
 clear k1 k2 k3 k4 h0 h1;have e:hoB 5 f=((zeF f) !=true):=rfl;rw[e];clear e;generalize zeF f=ze at*
 exact B0s
theorem B0G(f:Int)(w:World)(h0:0≤f)(h1:f≤15):Calls prog 49 #[.int .i64 5,.int .i64 f] w fun e w'=>e= .returned (.bool (hoB 5 f))∧Below w.heap.size w w':=by
 have e:hoB 5 f=((zeF f) !=true):=rfl;rw[e];clear e;have fb:f=2*(f / 2)+f%2:=by omega
 obtain⟨ca,hca⟩:∃b,(f%2==1)=b:=⟨_,rfl⟩
 obtain⟨ze,hze⟩:∃b,(f / 2%2==1)=b:=⟨_,rfl⟩
 rw[show zeF f=ze from hze];obtain⟨si,hsi⟩:∃b,(f / 4%2==1)=b:=⟨_,rfl⟩
 obtain⟨ov,hov⟩:∃b,(f / 8%2==1)=b:=⟨_,rfl⟩
 clear fb;cases ze<;>skip
 all_goals go_enter func49,ntmps49
 all_goals go_wp2_with fail
 all_goals go_ret
 all_goals exact⟨rfl,Below.refl _ _⟩
theorem B3O(f:Int)(w:World)(h0:0≤f)(h1:f≤15):Calls prog 82 #[.int .i64 6,.int .i64 f] w fun e w'=>e= .returned (.bool (hoB 6 f))∧Below w.heap.size w w':=by
 have HB:=hid ((Below.refl w.heap.size w).alloc (Nat.le_refl _) (.cells #[.int .i64 f] 3));obtain⟨k1,k2,k3,k4⟩:=I8 h0 h1;have Cca:Hid (∀w (b:Nat),w.cell? ⟨b,0,none⟩=some (.int .i64 f)→Calls prog 103 #[.int .i64 1,.pointer (some ⟨b,0,none⟩)] w fun e w'=>e= .returned (.bool (caF f))∧w=w'):=fun w b hc=>G6 1 f _ b w hc k1
 have Cze:Hid (∀w (b:Nat),w.cell? ⟨b,0,none⟩=some (.int .i64 f)→Calls prog 103 #[.int .i64 2,.pointer (some ⟨b,0,none⟩)] w fun e w'=>e= .returned (.bool (zeF f))∧w=w'):=fun w b hc=>G6 2 f _ b w hc k2
 clear k1 k2 k3 k4 h0 h1;have e:hoB 6 f=((caF f||zeF f) !=false):=rfl;rw[e];clear e;generalize caF f=ca at*
 generalize zeF f=ze at*
 exact B1K
theorem B0F(f:Int)(w:World)(h0:0≤f)(h1:f≤15):Calls prog 49 #[.int .i64 6,.int .i64 f] w fun e w'=>e= .returned (.bool (hoB 6 f))∧Below w.heap.size w w':=by
 have e:hoB 6 f=((caF f||zeF f) !=false):=rfl;rw[e];clear e;have fb:f=2*(f / 2)+f%2:=by omega
 obtain⟨ca,hca⟩:∃b,(f%2==1)=b:=⟨_,rfl⟩
 rw[show caF f=ca from hca];obtain⟨ze,hze⟩:∃b,(f / 2%2==1)=b:=⟨_,rfl⟩
 rw[show zeF f=ze from hze];obtain⟨si,hsi⟩:∃b,(f / 4%2==1)=b:=⟨_,rfl⟩
 obtain⟨ov,hov⟩:∃b,(f / 8%2==1)=b:=⟨_,rfl⟩
 clear fb;cases ca<;>cases ze<;>skip
 all_goals go_enter func49,ntmps49
 all_goals go_wp2_with fail
 all_goals go_ret
 all_goals exact⟨rfl,Below.refl _ _⟩
theorem B3N(f:Int)(w:World)(h0:0≤f)(h1:f≤15):Calls prog 82 #[.int .i64 7,.int .i64 f] w fun e w'=>e= .returned (.bool (hoB 7 f))∧Below w.heap.size w w':=by
 have HB:=hid ((Below.refl w.heap.size w).alloc (Nat.le_refl _) (.cells #[.int .i64 f] 3));obtain⟨k1,k2,k3,k4⟩:=I8 h0 h1;have Cca:Hid (∀w (b:Nat),w.cell? ⟨b,0,none⟩=some (.int .i64 f)→Calls prog 103 #[.int .i64 1,.pointer (some ⟨b,0,none⟩)] w fun e w'=>e= .returned (.bool (caF f))∧w=w'):=fun w b hc=>G6 1 f _ b w hc k1
 have Cze:Hid (∀w (b:Nat),w.cell? ⟨b,0,none⟩=some (.int .i64 f)→Calls prog 103 #[.int .i64 2,.pointer (some ⟨b,0,none⟩)] w fun e w'=>e= .returned (.bool (zeF f))∧w=w'):=fun w b hc=>G6 2 f _ b w hc k2
 clear k1 k2 k3 k4 h0 h1;have e:hoB 7 f=((caF f||zeF f) !=true):=rfl;rw[e];clear e;generalize caF f=ca at*
 generalize zeF f=ze at*
 exact B1K
theorem B0E(f:Int)(w:World)(h0:0≤f)(h1:f≤15):Calls prog 49 #[.int .i64 7,.int .i64 f] w fun e w'=>e= .returned (.bool (hoB 7 f))∧Below w.heap.size w w':=by
 have e:hoB 7 f=((caF f||zeF f) !=true):=rfl;rw[e];clear e;have fb:f=2*(f / 2)+f%2:=by omega
 obtain⟨ca,hca⟩:∃b,(f%2==1)=b:=⟨_,rfl⟩
 rw[show caF f=ca from hca];obtain⟨ze,hze⟩:∃b,(f / 2%2==1)=b:=⟨_,rfl⟩
 rw[show zeF f=ze from hze];obtain⟨si,hsi⟩:∃b,(f / 4%2==1)=b:=⟨_,rfl⟩
 obtain⟨ov,hov⟩:∃b,(f / 8%2==1)=b:=⟨_,rfl⟩
 clear fb;cases ca<;>cases ze<;>skip
 all_goals go_enter func49,ntmps49
 all_goals go_wp2_with fail
 all_goals go_ret
 all_goals exact⟨rfl,Below.refl _ _⟩
theorem B3M(f:Int)(w:World)(h0:0≤f)(h1:f≤15):Calls prog 82 #[.int .i64 8,.int .i64 f] w fun e w'=>e= .returned (.bool (hoB 8 f))∧Below w.heap.size w w':=by
 have HB:=hid ((Below.refl w.heap.size w).alloc (Nat.le_refl _) (.cells #[.int .i64 f] 3));obtain⟨k1,k2,k3,k4⟩:=I8 h0 h1;have Csi:Hid (∀w (b:Nat),w.cell? ⟨b,0,none⟩=some (.int .i64 f)→Calls prog 103 #[.int .i64 4,.pointer (some ⟨b,0,none⟩)] w fun e w'=>e= .returned (.bool (siF f))∧w=w'):=fun w b hc=>G6 4 f _ b w hc k3
 clear k1 k2 k3 k4 h0 h1;have e:hoB 8 f=((siF f) !=false):=rfl;rw[e];clear e;generalize siF f=si at*
 exact B0r
theorem B0D(f:Int)(w:World)(h0:0≤f)(h1:f≤15):Calls prog 49 #[.int .i64 8,.int .i64 f] w fun e w'=>e= .returned (.bool (hoB 8 f))∧Below w.heap.size w w':=by
 have e:hoB 8 f=((siF f) !=false):=rfl;rw[e];clear e;have fb:f=2*(f / 2)+f%2:=by omega
 obtain⟨ca,hca⟩:∃b,(f%2==1)=b:=⟨_,rfl⟩
 obtain⟨ze,hze⟩:∃b,(f / 2%2==1)=b:=⟨_,rfl⟩
 obtain⟨si,hsi⟩:∃b,(f / 4%2==1)=b:=⟨_,rfl⟩
 rw[show siF f=si from hsi];obtain⟨ov,hov⟩:∃b,(f / 8%2==1)=b:=⟨_,rfl⟩
 clear fb;cases si<;>skip
 all_goals go_enter func49,ntmps49
 all_goals go_wp2_with fail
 all_goals go_ret
 all_goals exact⟨rfl,Below.refl _ _⟩
theorem B3L(f:Int)(w:World)(h0:0≤f)(h1:f≤15):Calls prog 82 #[.int .i64 9,.int .i64 f] w fun e w'=>e= .returned (.bool (hoB 9 f))∧Below w.heap.size w w':=by
 have HB:=hid ((Below.refl w.heap.size w).alloc (Nat.le_refl _) (.cells #[.int .i64 f] 3));obtain⟨k1,k2,k3,k4⟩:=I8 h0 h1;have Csi:Hid (∀w (b:Nat),w.cell? ⟨b,0,none⟩=some (.int .i64 f)→Calls prog 103 #[.int .i64 4,.pointer (some ⟨b,0,none⟩)] w fun e w'=>e= .returned (.bool (siF f))∧w=w'):=fun w b hc=>G6 4 f _ b w hc k3
 clear k1 k2 k3 k4 h0 h1;have e:hoB 9 f=((siF f) !=true):=rfl;rw[e];clear e;generalize siF f=si at*
 exact B0r
theorem B0C(f:Int)(w:World)(h0:0≤f)(h1:f≤15):Calls prog 49 #[.int .i64 9,.int .i64 f] w fun e w'=>e= .returned (.bool (hoB 9 f))∧Below w.heap.size w w':=by
 have e:hoB 9 f=((siF f) !=true):=rfl;rw[e];clear e;have fb:f=2*(f / 2)+f%2:=by omega
 obtain⟨ca,hca⟩:∃b,(f%2==1)=b:=⟨_,rfl⟩
 obtain⟨ze,hze⟩:∃b,(f / 2%2==1)=b:=⟨_,rfl⟩
 obtain⟨si,hsi⟩:∃b,(f / 4%2==1)=b:=⟨_,rfl⟩
 rw[show siF f=si from hsi];obtain⟨ov,hov⟩:∃b,(f / 8%2==1)=b:=⟨_,rfl⟩
 clear fb;cases si<;>skip
 all_goals go_enter func49,ntmps49
 all_goals go_wp2_with fail
 all_goals go_ret
 all_goals exact⟨rfl,Below.refl _ _⟩
theorem B2L(f:Int)(w:World)(h0:0≤f)(h1:f≤15):Calls prog 82 #[.int .i64 12,.int .i64 f] w fun e w'=>e= .returned (.bool (hoB 12 f))∧Below w.heap.size w w':=by
 have HB:=hid ((Below.refl w.heap.size w).alloc (Nat.le_refl _) (.cells #[.int .i64 f] 3));obtain⟨k1,k2,k3,k4⟩:=I8 h0 h1;have Csi:Hid (∀w (b:Nat),w.cell? ⟨b,0,none⟩=some (.int .i64 f)→Calls prog 103 #[.int .i64 4,.pointer (some ⟨b,0,none⟩)] w fun e w'=>e= .returned (.bool (siF f))∧w=w'):=fun w b hc=>G6 4 f _ b w hc k3
 have Cov:Hid (∀w (b:Nat),w.cell? ⟨b,0,none⟩=some (.int .i64 f)→Calls prog 103 #[.int .i64 8,.pointer (some ⟨b,0,none⟩)] w fun e w'=>e= .returned (.bool (ovF f))∧w=w'):=fun w b hc=>G6 8 f _ b w hc k4
 clear k1 k2 k3 k4 h0 h1;have e:hoB 12 f=((siF f !=ovF f) !=false):=rfl;rw[e];clear e;generalize siF f=si at*
 generalize ovF f=ov at*
 exact B1J
theorem A7x(f:Int)(w:World)(h0:0≤f)(h1:f≤15):Calls prog 49 #[.int .i64 12,.int .i64 f] w fun e w'=>e= .returned (.bool (hoB 12 f))∧Below w.heap.size w w':=by
 have e:hoB 12 f=((siF f !=ovF f) !=false):=rfl;rw[e];clear e;have fb:f=2*(f / 2)+f%2:=by omega
 obtain⟨ca,hca⟩:∃b,(f%2==1)=b:=⟨_,rfl⟩
 obtain⟨ze,hze⟩:∃b,(f / 2%2==1)=b:=⟨_,rfl⟩
 obtain⟨si,hsi⟩:∃b,(f / 4%2==1)=b:=⟨_,rfl⟩
 rw[show siF f=si from hsi];obtain⟨ov,hov⟩:∃b,(f / 8%2==1)=b:=⟨_,rfl⟩
 rw[show ovF f=ov from hov];clear fb;cases si<;>cases ov<;>skip
 all_goals go_enter func49,ntmps49
 all_goals go_wp2_with fail
 all_goals go_ret
 all_goals exact⟨rfl,Below.refl _ _⟩
theorem B2K(f:Int)(w:World)(h0:0≤f)(h1:f≤15):Calls prog 82 #[.int .i64 13,.int .i64 f] w fun e w'=>e= .returned (.bool (hoB 13 f))∧Below w.heap.size w w':=by
 have HB:=hid ((Below.refl w.heap.size w).alloc (Nat.le_refl _) (.cells #[.int .i64 f] 3));obtain⟨k1,k2,k3,k4⟩:=I8 h0 h1;have Csi:Hid (∀w (b:Nat),w.cell? ⟨b,0,none⟩=some (.int .i64 f)→Calls prog 103 #[.int .i64 4,.pointer (some ⟨b,0,none⟩)] w fun e w'=>e= .returned (.bool (siF f))∧w=w'):=fun w b hc=>G6 4 f _ b w hc k3
 have Cov:Hid (∀w (b:Nat),w.cell? ⟨b,0,none⟩=some (.int .i64 f)→Calls prog 103 #[.int .i64 8,.pointer (some ⟨b,0,none⟩)] w fun e w'=>e= .returned (.bool (ovF f))∧w=w'):=fun w b hc=>G6 8 f _ b w hc k4
 clear k1 k2 k3 k4 h0 h1;have e:hoB 13 f=((siF f !=ovF f) !=true):=rfl;rw[e];clear e;generalize siF f=si at*
 generalize ovF f=ov at*
 exact B1J
theorem A7w(f:Int)(w:World)(h0:0≤f)(h1:f≤15):Calls prog 49 #[.int .i64 13,.int .i64 f] w fun e w'=>e= .returned (.bool (hoB 13 f))∧Below w.heap.size w w':=by
 have e:hoB 13 f=((siF f !=ovF f) !=true):=rfl;rw[e];clear e;have fb:f=2*(f / 2)+f%2:=by omega
 obtain⟨ca,hca⟩:∃b,(f%2==1)=b:=⟨_,rfl⟩
 obtain⟨ze,hze⟩:∃b,(f / 2%2==1)=b:=⟨_,rfl⟩
 obtain⟨si,hsi⟩:∃b,(f / 4%2==1)=b:=⟨_,rfl⟩
 rw[show siF f=si from hsi];obtain⟨ov,hov⟩:∃b,(f / 8%2==1)=b:=⟨_,rfl⟩
 rw[show ovF f=ov from hov];clear fb;cases si<;>cases ov<;>skip
 all_goals go_enter func49,ntmps49
 all_goals go_wp2_with fail
 all_goals go_ret
 all_goals exact⟨rfl,Below.refl _ _⟩
theorem B2J(f:Int)(w:World)(h0:0≤f)(h1:f≤15):Calls prog 82 #[.int .i64 14,.int .i64 f] w fun e w'=>e= .returned (.bool (hoB 14 f))∧Below w.heap.size w w':=by
 have HB:=hid ((Below.refl w.heap.size w).alloc (Nat.le_refl _) (.cells #[.int .i64 f] 3));obtain⟨k1,k2,k3,k4⟩:=I8 h0 h1;have Cze:Hid (∀w (b:Nat),w.cell? ⟨b,0,none⟩=some (.int .i64 f)→Calls prog 103 #[.int .i64 2,.pointer (some ⟨b,0,none⟩)] w fun e w'=>e= .returned (.bool (zeF f))∧w=w'):=fun w b hc=>G6 2 f _ b w hc k2
 have Csi:Hid (∀w (b:Nat),w.cell? ⟨b,0,none⟩=some (.int .i64 f)→Calls prog 103 #[.int .i64 4,.pointer (some ⟨b,0,none⟩)] w fun e w'=>e= .returned (.bool (siF f))∧w=w'):=fun w b hc=>G6 4 f _ b w hc k3
 have Cov:Hid (∀w (b:Nat),w.cell? ⟨b,0,none⟩=some (.int .i64 f)→Calls prog 103 #[.int .i64 8,.pointer (some ⟨b,0,none⟩)] w fun e w'=>e= .returned (.bool (ovF f))∧w=w'):=fun w b hc=>G6 8 f _ b w hc k4
 clear k1 k2 k3 k4 h0 h1;have e:hoB 14 f=((zeF f||(siF f !=ovF f)) !=false):=rfl;rw[e];clear e;generalize zeF f=ze at*
 generalize siF f=si at*
 generalize ovF f=ov at*
 exact B1T
theorem A7v(f:Int)(w:World)(h0:0≤f)(h1:f≤15):Calls prog 49 #[.int .i64 14,.int .i64 f] w fun e w'=>e= .returned (.bool (hoB 14 f))∧Below w.heap.size w w':=by
 have e:hoB 14 f=((zeF f||(siF f !=ovF f)) !=false):=rfl;rw[e];clear e;have fb:f=2*(f / 2)+f%2:=by omega
 obtain⟨ca,hca⟩:∃b,(f%2==1)=b:=⟨_,rfl⟩
 obtain⟨ze,hze⟩:∃b,(f / 2%2==1)=b:=⟨_,rfl⟩
 rw[show zeF f=ze from hze];obtain⟨si,hsi⟩:∃b,(f / 4%2==1)=b:=⟨_,rfl⟩
 rw[show siF f=si from hsi];obtain⟨ov,hov⟩:∃b,(f / 8%2==1)=b:=⟨_,rfl⟩
 rw[show ovF f=ov from hov];clear fb;cases ze<;>cases si<;>cases ov<;>skip
 all_goals go_enter func49,ntmps49
 all_goals go_wp2_with fail
 all_goals go_ret
 all_goals exact⟨rfl,Below.refl _ _⟩
theorem B2I(f:Int)(w:World)(h0:0≤f)(h1:f≤15):Calls prog 82 #[.int .i64 15,.int .i64 f] w fun e w'=>e= .returned (.bool (hoB 15 f))∧Below w.heap.size w w':=by
 have HB:=hid ((Below.refl w.heap.size w).alloc (Nat.le_refl _) (.cells #[.int .i64 f] 3));obtain⟨k1,k2,k3,k4⟩:=I8 h0 h1;have Cze:Hid (∀w (b:Nat),w.cell? ⟨b,0,none⟩=some (.int .i64 f)→Calls prog 103 #[.int .i64 2,.pointer (some ⟨b,0,none⟩)] w fun e w'=>e= .returned (.bool (zeF f))∧w=w'):=fun w b hc=>G6 2 f _ b w hc k2
 have Csi:Hid (∀w (b:Nat),w.cell? ⟨b,0,none⟩=some (.int .i64 f)→Calls prog 103 #[.int .i64 4,.pointer (some ⟨b,0,none⟩)] w fun e w'=>e= .returned (.bool (siF f))∧w=w'):=fun w b hc=>G6 4 f _ b w hc k3
 have Cov:Hid (∀w (b:Nat),w.cell? ⟨b,0,none⟩=some (.int .i64 f)→Calls prog 103 #[.int .i64 8,.pointer (some ⟨b,0,none⟩)] w fun e w'=>e= .returned (.bool (ovF f))∧w=w'):=fun w b hc=>G6 8 f _ b w hc k4
 clear k1 k2 k3 k4 h0 h1;have e:hoB 15 f=((zeF f||(siF f !=ovF f)) !=true):=rfl;rw[e];clear e;generalize zeF f=ze at*
 generalize siF f=si at*
 generalize ovF f=ov at*
 exact B1T
theorem A7u(f:Int)(w:World)(h0:0≤f)(h1:f≤15):Calls prog 49 #[.int .i64 15,.int .i64 f] w fun e w'=>e= .returned (.bool (hoB 15 f))∧Below w.heap.size w w':=by
 have e:hoB 15 f=((zeF f||(siF f !=ovF f)) !=true):=rfl;rw[e];clear e;have fb:f=2*(f / 2)+f%2:=by omega
 obtain⟨ca,hca⟩:∃b,(f%2==1)=b:=⟨_,rfl⟩
 obtain⟨ze,hze⟩:∃b,(f / 2%2==1)=b:=⟨_,rfl⟩
 rw[show zeF f=ze from hze];obtain⟨si,hsi⟩:∃b,(f / 4%2==1)=b:=⟨_,rfl⟩
 rw[show siF f=si from hsi];obtain⟨ov,hov⟩:∃b,(f / 8%2==1)=b:=⟨_,rfl⟩
 rw[show ovF f=ov from hov];clear fb;cases ze<;>cases si<;>cases ov<;>skip
 all_goals go_enter func49,ntmps49
 all_goals go_wp2_with fail
 all_goals go_ret
 all_goals exact⟨rfl,Below.refl _ _⟩
theorem b6(c f:Int)(w:World)(hc:isC c=true)(h0:0≤f)(h1:f≤15):Calls prog 82 #[.int .i64 c,.int .i64 f] w fun e w'=>e= .returned (.bool (hoB c f))∧Below w.heap.size w w':=by
 rcases p7 hc with rfl|rfl|rfl|rfl|rfl|rfl|rfl|rfl|rfl|rfl|rfl|rfl|rfl|rfl
 ·exact B3U f w h0 h1
 ·exact B3T f w h0 h1
 ·exact B3S f w h0 h1
 ·exact B3R f w h0 h1
 ·exact B3Q f w h0 h1
 ·exact B3P f w h0 h1
 ·exact B3O f w h0 h1
 ·exact B3N f w h0 h1
 ·exact B3M f w h0 h1
 ·exact B3L f w h0 h1
 ·exact B2L f w h0 h1
 ·exact B2K f w h0 h1
 ·exact B2J f w h0 h1
 ·exact B2I f w h0 h1
def rdC(x:Ins):Int:=if x.o=29∨x.o=32 then x.s else if x.o=31 then x.i else -1
theorem A8H{x:Ins}(h:okI x=true):rdC x= -1∨isC (rdC x)=true:=by
 have hf:=B2 h;obtain⟨o,d,s,z,i⟩:=x;unfold rdC;simp only;by_cases c1:o=29
 ·subst c1;right;simp[D2]at hf;simp[hf]
 ·by_cases c2:o=32
  ·subst c2;right;simp[D2]at hf;simp[hf]
  ·rw[if_neg (by omega)];by_cases c3:o=31
   ·subst c3;right;simp[D2]at hf;simp[hf]
   ·left;rw[if_neg c3]
end Go.Proofs.YtdojafpjipcbjaaGreat
