/- -/
import Derived.Test.YtajljbmeaeeknaaGreatA10
import Derived.Test.YtajljbmeaeeknaaGreatA13
import Derived.Test.YtajljbmeaeeknaaGreatA24
open Go.Proofs.Tryz
open Go.Lib (hid)
set_option maxHeartbeats 1000000
set_option maxRecDepth 100000
namespace Go.Proofs.YtajljbmeaeeknaaGreat
open Go.RowKit
set_option linter.unusedVariables false
set_option linter.unusedSimpArgs false
theorem B3u{p:Prop}(h:p:=by
 cases ze<;>cases si<;>cases ov<;>skip
 all_goals go_enter func170,ntmps170
 all_goals go_wp2_with(first|((go_at_call 225;with_reducible refine(Cze.out _ _ (by first|assumption|(simp[go_sem];done))).mono ?_);rintro e w' ⟨rfl,rfl⟩)|((go_at_call 225;with_reducible refine(Csi.out _ _ (by first|assumption|(simp[go_sem];done))).mono ?_);rintro e w' ⟨rfl,rfl⟩)|((go_at_call 225;with_reducible refine(Cov.out _ _ (by first|assumption|(simp[go_sem];done))).mono ?_);rintro e w' ⟨rfl,rfl⟩))
 all_goals go_ret
 all_goals exact⟨rfl,HB.out⟩
 ):p:=h
theorem B3m{p:Prop}(h:p:=by
 cases ca<;>cases ze<;>skip
 all_goals go_enter func170,ntmps170
 all_goals go_wp2_with(first|((go_at_call 225;with_reducible refine(Cca.out _ _ (by first|assumption|(simp[go_sem];done))).mono ?_);rintro e w' ⟨rfl,rfl⟩)|((go_at_call 225;with_reducible refine(Cze.out _ _ (by first|assumption|(simp[go_sem];done))).mono ?_);rintro e w' ⟨rfl,rfl⟩))
 all_goals go_ret
 all_goals exact⟨rfl,HB.out⟩
 ):p:=h
theorem B3l{p:Prop}(h:p:=by
 cases si<;>cases ov<;>skip
 all_goals go_enter func170,ntmps170
 all_goals go_wp2_with(first|((go_at_call 225;with_reducible refine(Csi.out _ _ (by first|assumption|(simp[go_sem];done))).mono ?_);rintro e w' ⟨rfl,rfl⟩)|((go_at_call 225;with_reducible refine(Cov.out _ _ (by first|assumption|(simp[go_sem];done))).mono ?_);rintro e w' ⟨rfl,rfl⟩))
 all_goals go_ret
 all_goals exact⟨rfl,HB.out⟩
 ):p:=h
theorem B3X{p:Prop}(h:p:=by
 cases ov<;>skip
 all_goals go_enter func170,ntmps170
 all_goals go_wp2_with(first|((go_at_call 225;with_reducible refine(Cov.out _ _ (by first|assumption|(simp[go_sem];done))).mono ?_);rintro e w' ⟨rfl,rfl⟩))
 all_goals go_ret
 all_goals exact⟨rfl,HB.out⟩
 ):p:=h
theorem B3W{p:Prop}(h:p:=by
 cases ca<;>skip
 all_goals go_enter func170,ntmps170
 all_goals go_wp2_with(first|((go_at_call 225;with_reducible refine(Cca.out _ _ (by first|assumption|(simp[go_sem];done))).mono ?_);rintro e w' ⟨rfl,rfl⟩))
 all_goals go_ret
 all_goals exact⟨rfl,HB.out⟩
 ):p:=h
theorem B3V{p:Prop}(h:p:=by
 cases ze<;>skip
 all_goals go_enter func170,ntmps170
 all_goals go_wp2_with(first|((go_at_call 225;with_reducible refine(Cze.out _ _ (by first|assumption|(simp[go_sem];done))).mono ?_);rintro e w' ⟨rfl,rfl⟩))
 all_goals go_ret
 all_goals exact⟨rfl,HB.out⟩
 ):p:=h
theorem B3U{p:Prop}(h:p:=by
 cases si<;>skip
 all_goals go_enter func170,ntmps170
 all_goals go_wp2_with(first|((go_at_call 225;with_reducible refine(Csi.out _ _ (by first|assumption|(simp[go_sem];done))).mono ?_);rintro e w' ⟨rfl,rfl⟩))
 all_goals go_ret
 all_goals exact⟨rfl,HB.out⟩
 ):p:=h
def caF(f:Int):Bool:=f%2==1
def zeF(f:Int):Bool:=f / 2%2==1
def siF(f:Int):Bool:=f / 4%2==1
def ovF(f:Int):Bool:=f / 8%2==1
def hoB(c f:Int):Bool:=
 (if c / 2=0 then ovF f else if c / 2=1 then caF f else if c / 2=2 then zeF f else if c / 2=3 then(caF f||zeF f)else if c / 2=4 then siF f
 else if c / 2=6 then(siF f !=ovF f)else if c / 2=7 then(zeF f||(siF f !=ovF f))else false) !=(c%2==1)
theorem A4n{c:Int}(h:isC c=true):c=0∨c=1∨c=2∨c=3∨c=4∨c=5∨c=6∨c=7∨c=8∨c=9∨c=12∨c=13∨c=14∨c=15:=by
 simp[isC]at h;omega
theorem I6(q f:Int)(r:Bool)(b:Nat)(w:World)(hc:w.cell? ⟨b,0,none⟩=some (.int .i64 f))(h:(bits .and .i64 f q !=0)=r):Calls prog 225 #[.int .i64 q,.pointer (some ⟨b,0,none⟩)] w fun e w'=>e= .returned (.bool r)∧w=w':=by
 go_enter func225,ntmps225;go_wp2_with fail
 go_ret;exact⟨rfl,rfl⟩
theorem K5{f:Int}(h0:0≤f)(h1:f≤15):(bits .and .i64 f 1 !=0)=caF f∧(bits .and .i64 f 2 !=0)=zeF f∧(bits .and .i64 f 4 !=0)=siF f∧(bits .and .i64 f 8 !=0)=ovF f:=by
 rcases(show f=0∨f=1∨f=2∨f=3∨f=4∨f=5∨f=6∨f=7∨f=8∨f=9∨f=10∨f=11∨f=12∨f=13∨f=14∨f=15 by omega)with rfl|rfl|rfl|rfl|rfl|rfl|rfl|rfl|rfl|rfl|rfl|rfl|rfl|rfl|rfl|rfl<;>decide
theorem B5z(f:Int)(w:World)(h0:0≤f)(h1:f≤15):Calls prog 170 #[.int .i64 0,.int .i64 f] w fun e w'=>e= .returned (.bool (hoB 0 f))∧Below w.heap.size w w':=by
 have HB:=hid ((Below.refl w.heap.size w).alloc (Nat.le_refl _) (.cells #[.int .i64 f] 3));obtain⟨k1,k2,k3,k4⟩:=K5 h0 h1;have Cov:Hid (∀w (b:Nat),w.cell? ⟨b,0,none⟩=some (.int .i64 f)→Calls prog 225 #[.int .i64 8,.pointer (some ⟨b,0,none⟩)] w fun e w'=>e= .returned (.bool (ovF f))∧w=w'):=fun w b hc=>I6 8 f _ b w hc k4
 clear k1 k2 k3 k4 h0 h1;have e:hoB 0 f=((ovF f) !=false):=rfl;rw[e];clear e;generalize ovF f=ov at*
 exact B3X
theorem B5y(f:Int)(w:World)(h0:0≤f)(h1:f≤15):Calls prog 170 #[.int .i64 1,.int .i64 f] w fun e w'=>e= .returned (.bool (hoB 1 f))∧Below w.heap.size w w':=by
 have HB:=hid ((Below.refl w.heap.size w).alloc (Nat.le_refl _) (.cells #[.int .i64 f] 3));obtain⟨k1,k2,k3,k4⟩:=K5 h0 h1;have Cov:Hid (∀w (b:Nat),w.cell? ⟨b,0,none⟩=some (.int .i64 f)→Calls prog 225 #[.int .i64 8,.pointer (some ⟨b,0,none⟩)] w fun e w'=>e= .returned (.bool (ovF f))∧w=w'):=fun w b hc=>I6 8 f _ b w hc k4
 clear k1 k2 k3 k4 h0 h1;have e:hoB 1 f=((ovF f) !=true):=rfl;rw[e];clear e;generalize ovF f=ov at*
 exact B3X
theorem B5x(f:Int)(w:World)(h0:0≤f)(h1:f≤15):Calls prog 170 #[.int .i64 2,.int .i64 f] w fun e w'=>e= .returned (.bool (hoB 2 f))∧Below w.heap.size w w':=by
 have HB:=hid ((Below.refl w.heap.size w).alloc (Nat.le_refl _) (.cells #[.int .i64 f] 3));obtain⟨k1,k2,k3,k4⟩:=K5 h0 h1;have Cca:Hid (∀w (b:Nat),w.cell? ⟨b,0,none⟩=some (.int .i64 f)→Calls prog 225 #[.int .i64 1,.pointer (some ⟨b,0,none⟩)] w fun e w'=>e= .returned (.bool (caF f))∧w=w'):=fun w b hc=>I6 1 f _ b w hc k1
 clear k1 k2 k3 k4 h0 h1;have e:hoB 2 f=((caF f) !=false):=rfl;rw[e];clear e;generalize caF f=ca at*
 exact B3W
theorem B5w(f:Int)(w:World)(h0:0≤f)(h1:f≤15):Calls prog 170 #[.int .i64 3,.int .i64 f] w fun e w'=>e= .returned (.bool (hoB 3 f))∧Below w.heap.size w w':=by
 have HB:=hid ((Below.refl w.heap.size w).alloc (Nat.le_refl _) (.cells #[.int .i64 f] 3));obtain⟨k1,k2,k3,k4⟩:=K5 h0 h1;have Cca:Hid (∀w (b:Nat),w.cell? ⟨b,0,none⟩=some (.int .i64 f)→Calls prog 225 #[.int .i64 1,.pointer (some ⟨b,0,none⟩)] w fun e w'=>e= .returned (.bool (caF f))∧w=w'):=fun w b hc=>I6 1 f _ b w hc k1
 clear k1 k2 k3 k4 h0 h1;have e:hoB 3 f=((caF f) !=true):=rfl;rw[e];clear e;generalize caF f=ca at*
 exact B3W
theorem B5v(f:Int)(w:World)(h0:0≤f)(h1:f≤15):Calls prog 170 #[.int .i64 4,.int .i64 f] w fun e w'=>e= .returned (.bool (hoB 4 f))∧Below w.heap.size w w':=by
 have HB:=hid ((Below.refl w.heap.size w).alloc (Nat.le_refl _) (.cells #[.int .i64 f] 3));obtain⟨k1,k2,k3,k4⟩:=K5 h0 h1;have Cze:Hid (∀w (b:Nat),w.cell? ⟨b,0,none⟩=some (.int .i64 f)→Calls prog 225 #[.int .i64 2,.pointer (some ⟨b,0,none⟩)] w fun e w'=>e= .returned (.bool (zeF f))∧w=w'):=fun w b hc=>I6 2 f _ b w hc k2
 clear k1 k2 k3 k4 h0 h1;have e:hoB 4 f=((zeF f) !=false):=rfl;rw[e];clear e;generalize zeF f=ze at*
 exact B3V
theorem B5u(f:Int)(w:World)(h0:0≤f)(h1:f≤15):Calls prog 170 #[.int .i64 5,.int .i64 f] w fun e w'=>e= .returned (.bool (hoB 5 f))∧Below w.heap.size w w':=by
 have HB:=hid ((Below.refl w.heap.size w).alloc (Nat.le_refl _) (.cells #[.int .i64 f] 3));obtain⟨k1,k2,k3,k4⟩:=K5 h0 h1;have Cze:Hid (∀w (b:Nat),w.cell? ⟨b,0,none⟩=some (.int .i64 f)→Calls prog 225 #[.int .i64 2,.pointer (some ⟨b,0,none⟩)] w fun e w'=>e= .returned (.bool (zeF f))∧w=w'):=fun w b hc=>I6 2 f _ b w hc k2
 clear k1 k2 k3 k4 h0 h1;have e:hoB 5 f=((zeF f) !=true):=rfl;rw[e];clear e;generalize zeF f=ze at*
 exact B3V
theorem B5t(f:Int)(w:World)(h0:0≤f)(h1:f≤15):Calls prog 170 #[.int .i64 6,.int .i64 f] w fun e w'=>e= .returned (.bool (hoB 6 f))∧Below w.heap.size w w':=by
 have HB:=hid ((Below.refl w.heap.size w).alloc (Nat.le_refl _) (.cells #[.int .i64 f] 3));obtain⟨k1,k2,k3,k4⟩:=K5 h0 h1;have Cca:Hid (∀w (b:Nat),w.cell? ⟨b,0,none⟩=some (.int .i64 f)→Calls prog 225 #[.int .i64 1,.pointer (some ⟨b,0,none⟩)] w fun e w'=>e= .returned (.bool (caF f))∧w=w'):=fun w b hc=>I6 1 f _ b w hc k1
 have Cze:Hid (∀w (b:Nat),w.cell? ⟨b,0,none⟩=some (.int .i64 f)→Calls prog 225 #[.int .i64 2,.pointer (some ⟨b,0,none⟩)] w fun e w'=>e= .returned (.bool (zeF f))∧w=w'):=fun w b hc=>I6 2 f _ b w hc k2
 clear k1 k2 k3 k4 h0 h1;have e:hoB 6 f=((caF f||zeF f) !=false):=rfl;rw[e];clear e;generalize caF f=ca at*
 generalize zeF f=ze at*
 exact B3m
theorem B5s(f:Int)(w:World)(h0:0≤f)(h1:f≤15):Calls prog 170 #[.int .i64 7,.int .i64 f] w fun e w'=>e= .returned (.bool (hoB 7 f))∧Below w.heap.size w w':=by
 have HB:=hid ((Below.refl w.heap.size w).alloc (Nat.le_refl _) (.cells #[.int .i64 f] 3));obtain⟨k1,k2,k3,k4⟩:=K5 h0 h1;have Cca:Hid (∀w (b:Nat),w.cell? ⟨b,0,none⟩=some (.int .i64 f)→Calls prog 225 #[.int .i64 1,.pointer (some ⟨b,0,none⟩)] w fun e w'=>e= .returned (.bool (caF f))∧w=w'):=fun w b hc=>I6 1 f _ b w hc k1
 have Cze:Hid (∀w (b:Nat),w.cell? ⟨b,0,none⟩=some (.int .i64 f)→Calls prog 225 #[.int .i64 2,.pointer (some ⟨b,0,none⟩)] w fun e w'=>e= .returned (.bool (zeF f))∧w=w'):=fun w b hc=>I6 2 f _ b w hc k2
 clear k1 k2 k3 k4 h0 h1;have e:hoB 7 f=((caF f||zeF f) !=true):=rfl;rw[e];clear e;generalize caF f=ca at*
 generalize zeF f=ze at*
 exact B3m
theorem B5r(f:Int)(w:World)(h0:0≤f)(h1:f≤15):Calls prog 170 #[.int .i64 8,.int .i64 f] w fun e w'=>e= .returned (.bool (hoB 8 f))∧Below w.heap.size w w':=by
 have HB:=hid ((Below.refl w.heap.size w).alloc (Nat.le_refl _) (.cells #[.int .i64 f] 3));obtain⟨k1,k2,k3,k4⟩:=K5 h0 h1;have Csi:Hid (∀w (b:Nat),w.cell? ⟨b,0,none⟩=some (.int .i64 f)→Calls prog 225 #[.int .i64 4,.pointer (some ⟨b,0,none⟩)] w fun e w'=>e= .returned (.bool (siF f))∧w=w'):=fun w b hc=>I6 4 f _ b w hc k3
 clear k1 k2 k3 k4 h0 h1;have e:hoB 8 f=((siF f) !=false):=rfl;rw[e];clear e;generalize siF f=si at*
 exact B3U
theorem B5q(f:Int)(w:World)(h0:0≤f)(h1:f≤15):Calls prog 170 #[.int .i64 9,.int .i64 f] w fun e w'=>e= .returned (.bool (hoB 9 f))∧Below w.heap.size w w':=by
 have HB:=hid ((Below.refl w.heap.size w).alloc (Nat.le_refl _) (.cells #[.int .i64 f] 3));obtain⟨k1,k2,k3,k4⟩:=K5 h0 h1;have Csi:Hid (∀w (b:Nat),w.cell? ⟨b,0,none⟩=some (.int .i64 f)→Calls prog 225 #[.int .i64 4,.pointer (some ⟨b,0,none⟩)] w fun e w'=>e= .returned (.bool (siF f))∧w=w'):=fun w b hc=>I6 4 f _ b w hc k3
 clear k1 k2 k3 k4 h0 h1;have e:hoB 9 f=((siF f) !=true):=rfl;rw[e];clear e;generalize siF f=si at*
 exact B3U
theorem B4r(f:Int)(w:World)(h0:0≤f)(h1:f≤15):Calls prog 170 #[.int .i64 12,.int .i64 f] w fun e w'=>e= .returned (.bool (hoB 12 f))∧Below w.heap.size w w':=by
 have HB:=hid ((Below.refl w.heap.size w).alloc (Nat.le_refl _) (.cells #[.int .i64 f] 3));obtain⟨k1,k2,k3,k4⟩:=K5 h0 h1;have Csi:Hid (∀w (b:Nat),w.cell? ⟨b,0,none⟩=some (.int .i64 f)→Calls prog 225 #[.int .i64 4,.pointer (some ⟨b,0,none⟩)] w fun e w'=>e= .returned (.bool (siF f))∧w=w'):=fun w b hc=>I6 4 f _ b w hc k3
 have Cov:Hid (∀w (b:Nat),w.cell? ⟨b,0,none⟩=some (.int .i64 f)→Calls prog 225 #[.int .i64 8,.pointer (some ⟨b,0,none⟩)] w fun e w'=>e= .returned (.bool (ovF f))∧w=w'):=fun w b hc=>I6 8 f _ b w hc k4
 clear k1 k2 k3 k4 h0 h1;have e:hoB 12 f=((siF f !=ovF f) !=false):=rfl;rw[e];clear e;generalize siF f=si at*
 generalize ovF f=ov at*
 exact B3l
theorem B4q(f:Int)(w:World)(h0:0≤f)(h1:f≤15):Calls prog 170 #[.int .i64 13,.int .i64 f] w fun e w'=>e= .returned (.bool (hoB 13 f))∧Below w.heap.size w w':=by
 have HB:=hid ((Below.refl w.heap.size w).alloc (Nat.le_refl _) (.cells #[.int .i64 f] 3));obtain⟨k1,k2,k3,k4⟩:=K5 h0 h1;have Csi:Hid (∀w (b:Nat),w.cell? ⟨b,0,none⟩=some (.int .i64 f)→Calls prog 225 #[.int .i64 4,.pointer (some ⟨b,0,none⟩)] w fun e w'=>e= .returned (.bool (siF f))∧w=w'):=fun w b hc=>I6 4 f _ b w hc k3
 have Cov:Hid (∀w (b:Nat),w.cell? ⟨b,0,none⟩=some (.int .i64 f)→Calls prog 225 #[.int .i64 8,.pointer (some ⟨b,0,none⟩)] w fun e w'=>e= .returned (.bool (ovF f))∧w=w'):=fun w b hc=>I6 8 f _ b w hc k4
 clear k1 k2 k3 k4 h0 h1;have e:hoB 13 f=((siF f !=ovF f) !=true):=rfl;rw[e];clear e;generalize siF f=si at*
 generalize ovF f=ov at*
 exact B3l
theorem B4p(f:Int)(w:World)(h0:0≤f)(h1:f≤15):Calls prog 170 #[.int .i64 14,.int .i64 f] w fun e w'=>e= .returned (.bool (hoB 14 f))∧Below w.heap.size w w':=by
 have HB:=hid ((Below.refl w.heap.size w).alloc (Nat.le_refl _) (.cells #[.int .i64 f] 3));obtain⟨k1,k2,k3,k4⟩:=K5 h0 h1;have Cze:Hid (∀w (b:Nat),w.cell? ⟨b,0,none⟩=some (.int .i64 f)→Calls prog 225 #[.int .i64 2,.pointer (some ⟨b,0,none⟩)] w fun e w'=>e= .returned (.bool (zeF f))∧w=w'):=fun w b hc=>I6 2 f _ b w hc k2
 have Csi:Hid (∀w (b:Nat),w.cell? ⟨b,0,none⟩=some (.int .i64 f)→Calls prog 225 #[.int .i64 4,.pointer (some ⟨b,0,none⟩)] w fun e w'=>e= .returned (.bool (siF f))∧w=w'):=fun w b hc=>I6 4 f _ b w hc k3
 have Cov:Hid (∀w (b:Nat),w.cell? ⟨b,0,none⟩=some (.int .i64 f)→Calls prog 225 #[.int .i64 8,.pointer (some ⟨b,0,none⟩)] w fun e w'=>e= .returned (.bool (ovF f))∧w=w'):=fun w b hc=>I6 8 f _ b w hc k4
 clear k1 k2 k3 k4 h0 h1;have e:hoB 14 f=((zeF f||(siF f !=ovF f)) !=false):=rfl;rw[e];clear e;generalize zeF f=ze at*
 generalize siF f=si at*
 generalize ovF f=ov at*
 exact B3u
theorem B4o(f:Int)(w:World)(h0:0≤f)(h1:f≤15):Calls prog 170 #[.int .i64 15,.int .i64 f] w fun e w'=>e= .returned (.bool (hoB 15 f))∧Below w.heap.size w w':=by
 have HB:=hid ((Below.refl w.heap.size w).alloc (Nat.le_refl _) (.cells #[.int .i64 f] 3));obtain⟨k1,k2,k3,k4⟩:=K5 h0 h1;have Cze:Hid (∀w (b:Nat),w.cell? ⟨b,0,none⟩=some (.int .i64 f)→Calls prog 225 #[.int .i64 2,.pointer (some ⟨b,0,none⟩)] w fun e w'=>e= .returned (.bool (zeF f))∧w=w'):=fun w b hc=>I6 2 f _ b w hc k2
 have Csi:Hid (∀w (b:Nat),w.cell? ⟨b,0,none⟩=some (.int .i64 f)→Calls prog 225 #[.int .i64 4,.pointer (some ⟨b,0,none⟩)] w fun e w'=>e= .returned (.bool (siF f))∧w=w'):=fun w b hc=>I6 4 f _ b w hc k3
 have Cov:Hid (∀w (b:Nat),w.cell? ⟨b,0,none⟩=some (.int .i64 f)→Calls prog 225 #[.int .i64 8,.pointer (some ⟨b,0,none⟩)] w fun e w'=>e= .returned (.bool (ovF f))∧w=w'):=fun w b hc=>I6 8 f _ b w hc k4
 clear k1 k2 k3 k4 h0 h1;have e:hoB 15 f=((zeF f||(siF f !=ovF f)) !=true):=rfl;rw[e];clear e;generalize zeF f=ze at*
 generalize siF f=si at*
 generalize ovF f=ov at*
 exact B3u
theorem p8(c f:Int)(w:World)(hc:isC c=true)(h0:0≤f)(h1:f≤15):Calls prog 170 #[.int .i64 c,.int .i64 f] w fun e w'=>e= .returned (.bool (hoB c f))∧Below w.heap.size w w':=by
 rcases A4n hc with rfl|rfl|rfl|rfl|rfl|rfl|rfl|rfl|rfl|rfl|rfl|rfl|rfl|rfl
 ·exact B5z f w h0 h1
 ·exact B5y f w h0 h1
 ·exact B5x f w h0 h1
 ·exact B5w f w h0 h1
 ·exact B5v f w h0 h1
 ·exact B5u f w h0 h1
 ·exact B5t f w h0 h1
 ·exact B5s f w h0 h1
 ·exact B5r f w h0 h1
 ·exact B5q f w h0 h1
 ·exact B4r f w h0 h1
 ·exact B4q f w h0 h1
 ·exact B4p f w h0 h1
 ·exact B4o f w h0 h1
def rdC(x:Ins):Int:=if x.o=29∨x.o=32 then x.s else if x.o=31 then x.i else -1
theorem B0z{x:Ins}(h:okI x=true):rdC x= -1∨isC (rdC x)=true:=by
 have hf:=D4 h;obtain⟨o,d,s,z,i⟩:=x;unfold rdC;simp only;by_cases c1:o=29
 ·subst c1;right;simp[G7]at hf;simp[hf]
 ·by_cases c2:o=32
  ·subst c2;right;simp[G7]at hf;simp[hf]
  ·rw[if_neg (by omega)];by_cases c3:o=31
   ·subst c3;right;simp[G7]at hf;simp[hf]
   ·left;rw[if_neg c3]
end Go.Proofs.YtajljbmeaeeknaaGreat
namespace Go.Proofs.YtajljbmeaeeknaaGreat
open Go.RowKit Go.Maps
set_option linter.unusedVariables false
set_option linter.unusedSimpArgs false
theorem B3R{p:Prop}(h:p:=by
 refine wpQuiet_nil ?_;intro wq hwq;clear ne p0 b1 b2 b4 rdd rss r00 ff;have hq:=(HR.out _ hwq)
 have hF:=HF.out _ hwq;obtain⟨hq1,hq2⟩:=hq;go_wp2_with fail
 exact bodyPost_end (v:=.tuple #[]) (by simp[results,results116,go_sem]) rfl ⟨rfl,hF.1,hF.2⟩
 ):p:=h
def cdV(a:Int):Int:=if 2147483648≤a then 4294967295 else 0
theorem A7c(a:Int):0≤cdV a∧cdV a<4294967296:=by unfold cdV;split<;>omega
theorem B2z(a:Int)(h0:0≤a)(h1:a<4294967296):bits .and .u32 a 255=a%256:=by
 have:=R1 a.toNat 8 (by omega) (by decide);rw[show((a.toNat:Nat):Int)=a by omega,show((2^8:Nat)-1:Int)=255 by decide]at this;rw[this];omega
theorem B5Z(a:Int)(h0:0≤a)(h1:a<4294967296):wrap32 a / 2147483648%4294967296=cdV a:=by
 unfold cdV wrap32
 split<;>omega
theorem A4g(a:Nat)(ha:a<2^32):a&&&(16777215<<<8)=(a>>>8)<<<8:=by
 apply Nat.eq_of_testBit_eq;intro i;rw[Nat.testBit_and,Nat.testBit_shiftLeft,Nat.testBit_shiftLeft,Nat.testBit_shiftRight];by_cases h:i≥8
 ·simp only[h,decide_true,Bool.true_and];rw[show 8+(i-8)=i by omega,show(16777215:Nat)=2^24-1 from rfl,Nat.testBit_two_pow_sub_one];by_cases h2:i-8<24
  ·simp[h2]
  ·have:a.testBit i=false:=Nat.testBit_lt_two_pow (Nat.lt_of_lt_of_le ha (Nat.pow_le_pow_right (by decide) (by omega)));simp[this]
 ·simp[h]
theorem A4P(a:Int)(h0:0≤a)(h1:a<4294967296)(b:Bool):bits .or .u32 (bits .andNot .u32 a 255) (if b=true then 1 else 0)=a / 256*256+(if b=true then 1 else 0):=by
 obtain⟨x,rfl⟩:=Int.eq_ofNat_of_zero_le h0;have hx:x<4294967296:=by omega
 have e1:bits .andNot .u32 (x:Int) 255=(((x>>>8)<<<8:Nat):Int):=by
  have:=u32_andNot_nat x 255 hx (by decide);rw[show(4294967295-255:Nat)=16777215<<<8 from rfl,A4g x hx]at this;exact this
 have hs:(x>>>8)<<<8=x / 256*256:=by rw[Nat.shiftLeft_eq,Nat.shiftRight_eq_div_pow]
 have e2:(if b=true then(1:Int)else 0)=((if b=true then 1 else 0:Nat):Int):=by cases b<;>rfl
 rw[e1,e2,u32_or_nat _ _ (by rw[hs];omega) (by split<;>decide),hs,nat_join 8 (x / 256*256) _ (Nat.mul_mod_left _ _) (by split<;>decide)];omega
section
variable {base T M : Nat} {mv : Value} {x : Ins} {z : Int} {fl fl' : Bool} {c c' : Mac} {B : Nat} {o d s xz xi : Int} {w wk wk' : World}
def XI(base T M:Nat)(mv:Value)(x:Ins)(z:Int)(B:Nat)(o d s xz xi:Int)(w:World)(fl:Bool)(c:Mac):World→Prop:=fun wk=>XC base T M mv x z B o d s xz xi w fl c wk
end
section
variable {base T M : Nat} {mv : Value} {x : Ins} {z : Int} {fl : Bool} {c : Mac}
theorem A9L(d s:Nat)(hd:d<32)(hs:s<32)(w:World)(h:MSt base T M mv x z fl c w)(hxo:x.o=28)(hxd:x.d=(d:Int))(hxs:x.s=(s:Int)):Calls prog 116 #[.pointer (some ⟨T,0,none⟩)] w fun e w'=>e= .returned (.tuple #[])∧MSt base T M mv x z fl {c with r:=c.r.set 2 (cdV (c.r.getD 0 0))} w'∧Ch T M mv w w':=by
 have x1:=h.xo;have x2:=h.xd;have x3:=h.xs;have x4:=h.xz;have x5:=h.xi;rw[hxo]at x1;rw[hxd]at x2;rw[hxs]at x3;have hT:=h.ltT;have hne:T≠w.heap.size:=by omega
 have hpw:=D8 h.zz;have b0:=h.rb 0;have bd:=h.rb d;have bs:=h.rb s;have hd1:(d:Int)<32:=by omega
 have hs1:(s:Int)<32:=by omega
 have fb:=h.fb;have Hrd:Hid (∀wk,XI base T M mv x z w.heap.size 28 (d:Int) (s:Int) x.z x.i w fl c wk→wk.cell? ⟨M,d,none⟩=some (.int .u32 (c.r.getD d 0))):=hid (fun wk hk=>((XC.m hk).reg hd).1);have Hrs:Hid (∀wk,XI base T M mv x z w.heap.size 28 (d:Int) (s:Int) x.z x.i w fl c wk→wk.cell? ⟨M,s,none⟩=some (.int .u32 (c.r.getD s 0))):=hid (fun wk hk=>((XC.m hk).reg hs).1);have Hr0:Hid (∀wk,XI base T M mv x z w.heap.size 28 (d:Int) (s:Int) x.z x.i w fl c wk→wk.cell? ⟨M,0,none⟩=some (.int .u32 (c.r.getD 0 0))):=hid (fun wk hk=>((XC.m hk).reg (d:=0) (by decide)).1);have Hff:Hid (∀wk,XI base T M mv x z w.heap.size 28 (d:Int) (s:Int) x.z x.i w fl c wk→wk.cell? ⟨M,32,none⟩=some (.int .i64 c.f)):=hid (fun wk hk=>(XC.m hk).flg.1);have HB:Hid (∀wk wk',XI base T M mv x z w.heap.size 28 (d:Int) (s:Int) x.z x.i w fl c wk→Below wk.heap.size wk wk'→XI base T M mv x z w.heap.size 28 (d:Int) (s:Int) x.z x.i w fl c wk'):=hid (fun wk wk' hk hb=>XC.next hk ((XC.m hk).same hb) (Ch.of_below hb));have HR:Hid (∀wk,XI base T M mv x z w.heap.size 28 (d:Int) (s:Int) x.z x.i w fl c wk→wk.cell? ⟨M,2,none⟩=some (.int .u32 (c.r.getD 2 0))∧wk.frozen? ⟨M,2,none⟩=false):=hid (fun wk hk=>(XC.m hk).reg (d:=2) (by decide));have HF:Hid (∀wk,XI base T M mv x z w.heap.size 28 (d:Int) (s:Int) x.z x.i w fl c wk→MSt base T M mv x z fl {c with r:=c.r.set 2 (cdV (c.r.getD 0 0))} (wk.setCell ⟨M,2,none⟩ (.int .u32 (cdV (c.r.getD 0 0))))∧Ch T M mv w (wk.setCell ⟨M,2,none⟩ (.int .u32 (cdV (c.r.getD 0 0))))):=hid (fun wk hk=>⟨(XC.m hk).setR (d:=2) (by decide) (A7c _).1 (A7c _).2,(XC.ch hk).setM _ _⟩);have HC:=hid (B5Z (c.r.getD 0 0) b0.1 b0.2);generalize c.r.getD 2 0=v2 at*
 generalize x.z=xz at*
 generalize x.i=xi at*
 have hX:=XC.new h 28 (d:Int) (s:Int) xz xi;generalize c.r.getD 0 0=v0 at*
 generalize c.r.getD d 0=vd at*
 generalize c.r.getD s 0=vs at*
 generalize c.f=f at*
 clear h;go_enter func116,ntmps116;go_upto_region 45 with fail
 generalize(w.alloc (.cells #[.int .i64 28,.int .i64 (d:Int),.int .i64 (s:Int),.int .i64 xz,.int .i64 xi] 89))=wa at*
 generalize w.heap.size=B at*
 have ne:Nonempty (In (XI base T M mv x z B 28 (d:Int) (s:Int) xz xi w fl c)):=⟨⟨wa,hX⟩⟩
 have p0:∀s':In (XI base T M mv x z B 28 (d:Int) (s:Int) xz xi w fl c),s'.w.cell? ⟨T,0,none⟩=some (.pointer (some ⟨M,0,none⟩)):=fun s'=>(XC.m s'.h).ptr
 have b1:∀s':In (XI base T M mv x z B 28 (d:Int) (s:Int) xz xi w fl c),s'.w.cell? ⟨B,1,none⟩=some (.int .i64 (d:Int)):=fun s'=>(XC.b s'.h).cells.1.2.1
 have b2:∀s':In (XI base T M mv x z B 28 (d:Int) (s:Int) xz xi w fl c),s'.w.cell? ⟨B,2,none⟩=some (.int .i64 (s:Int)):=fun s'=>(XC.b s'.h).cells.1.2.2.1
 have b4:∀s':In (XI base T M mv x z B 28 (d:Int) (s:Int) xz xi w fl c),s'.w.cell? ⟨B,4,none⟩=some (.int .i64 xi):=fun s'=>(XC.b s'.h).cells.1.2.2.2.2
 have rdd:∀s':In (XI base T M mv x z B 28 (d:Int) (s:Int) xz xi w fl c),s'.w.cell? ⟨M,d,none⟩=some (.int .u32 vd):=fun s'=>Hrd.out _ s'.h
 have rss:∀s':In (XI base T M mv x z B 28 (d:Int) (s:Int) xz xi w fl c),s'.w.cell? ⟨M,s,none⟩=some (.int .u32 vs):=fun s'=>Hrs.out _ s'.h
 have r00:∀s':In (XI base T M mv x z B 28 (d:Int) (s:Int) xz xi w fl c),s'.w.cell? ⟨M,0,none⟩=some (.int .u32 v0):=fun s'=>Hr0.out _ s'.h
 have ff:∀s':In (XI base T M mv x z B 28 (d:Int) (s:Int) xz xi w fl c),s'.w.cell? ⟨M,32,none⟩=some (.int .i64 f):=fun s'=>Hff.out _ s'.h
 refine L2 (XI base T M mv x z B 28 (d:Int) (s:Int) xz xi w fl c) 18 (by kernel_rfl) (by kernel_rfl) (XC.drew hX) ?_;dsimp only[List.take,List.drop]
 repeat(go_big_quiet_step (fail))
 refine wpQuiet_nil ?_;intro wq hwq;clear ne p0 b1 b2 b4 rdd rss r00 ff;have hq:=(HR.out _ hwq)
 have hF:=HF.out _ hwq;obtain⟨hq1,hq2⟩:=hq;go_wp2_with fail
 rw[HC.out];exact bodyPost_end (v:=.tuple #[]) (by simp[results,results116,go_sem]) rfl ⟨rfl,hF.1,hF.2⟩
theorem A9K(d s:Nat)(hd:d<32)(hs:s<32)(w:World)(h:MSt base T M mv x z fl c w)(hxo:x.o=29)(hxd:x.d=(d:Int))(hxs:x.s=(s:Int))(hc:isC (s:Int)=true):Calls prog 116 #[.pointer (some ⟨T,0,none⟩)] w fun e w'=>e= .returned (.tuple #[])∧MSt base T M mv x z fl {c with r:=c.r.set d (c.r.getD d 0 / 256*256+(if hoB s c.f=true then 1 else 0))} w'∧Ch T M mv w w':=by
 have x1:=h.xo;have x2:=h.xd;have x3:=h.xs;have x4:=h.xz;have x5:=h.xi;rw[hxo]at x1;rw[hxd]at x2;rw[hxs]at x3;have hT:=h.ltT;have hne:T≠w.heap.size:=by omega
 have hpw:=D8 h.zz;have b0:=h.rb 0;have bd:=h.rb d;have bs:=h.rb s;have hd1:(d:Int)<32:=by omega
 have hs1:(s:Int)<32:=by omega
 have fb:=h.fb;have Hrd:Hid (∀wk,XI base T M mv x z w.heap.size 29 (d:Int) (s:Int) x.z x.i w fl c wk→wk.cell? ⟨M,d,none⟩=some (.int .u32 (c.r.getD d 0))):=hid (fun wk hk=>((XC.m hk).reg hd).1);have Hrs:Hid (∀wk,XI base T M mv x z w.heap.size 29 (d:Int) (s:Int) x.z x.i w fl c wk→wk.cell? ⟨M,s,none⟩=some (.int .u32 (c.r.getD s 0))):=hid (fun wk hk=>((XC.m hk).reg hs).1);have Hr0:Hid (∀wk,XI base T M mv x z w.heap.size 29 (d:Int) (s:Int) x.z x.i w fl c wk→wk.cell? ⟨M,0,none⟩=some (.int .u32 (c.r.getD 0 0))):=hid (fun wk hk=>((XC.m hk).reg (d:=0) (by decide)).1);have Hff:Hid (∀wk,XI base T M mv x z w.heap.size 29 (d:Int) (s:Int) x.z x.i w fl c wk→wk.cell? ⟨M,32,none⟩=some (.int .i64 c.f)):=hid (fun wk hk=>(XC.m hk).flg.1);have HB:Hid (∀wk wk',XI base T M mv x z w.heap.size 29 (d:Int) (s:Int) x.z x.i w fl c wk→Below wk.heap.size wk wk'→XI base T M mv x z w.heap.size 29 (d:Int) (s:Int) x.z x.i w fl c wk'):=hid (fun wk wk' hk hb=>XC.next hk ((XC.m hk).same hb) (Ch.of_below hb));have HR:Hid (∀wk,XI base T M mv x z w.heap.size 29 (d:Int) (s:Int) x.z x.i w fl c wk→wk.cell? ⟨M,d,none⟩=some (.int .u32 (c.r.getD d 0))∧wk.frozen? ⟨M,d,none⟩=false):=hid (fun wk hk=>(XC.m hk).reg hd);have HF:Hid (∀wk,XI base T M mv x z w.heap.size 29 (d:Int) (s:Int) x.z x.i w fl c wk→MSt base T M mv x z fl {c with r:=c.r.set d (c.r.getD d 0 / 256*256+(if hoB s c.f=true then 1 else 0))} (wk.setCell ⟨M,d,none⟩ (.int .u32 (c.r.getD d 0 / 256*256+(if hoB s c.f=true then 1 else 0))))∧Ch T M mv w (wk.setCell ⟨M,d,none⟩ (.int .u32 (c.r.getD d 0 / 256*256+(if hoB s c.f=true then 1 else 0))))):=hid (fun wk hk=>⟨(XC.m hk).setR hd (by split<;>omega) (by split<;>omega),(XC.ch hk).setM _ _⟩);have CH:=hid (fun wk=>p8 (s:Int) c.f wk hc fb.1 fb.2);generalize hoB (s:Int) c.f=hb at*
 clear hc;have CF:=hid (fun wk=>M7 hb 1 wk);have HO:=hid (A4P (c.r.getD d 0) bd.1 bd.2 hb);have hq0:(if hb=true then(1:Int)else 0)%4294967296=(if hb=true then(1:Int)else 0):=by split<;>rfl
 generalize(if hb=true then(1:Int)else 0)=q at*
 generalize x.z=xz at*
 generalize x.i=xi at*
 have hX:=XC.new h 29 (d:Int) (s:Int) xz xi;generalize c.r.getD 0 0=v0 at*
 generalize c.r.getD d 0=vd at*
 generalize c.r.getD s 0=vs at*
 generalize c.f=f at*
 clear h;go_enter func116,ntmps116;go_upto_region 47 with fail
 generalize(w.alloc (.cells #[.int .i64 29,.int .i64 (d:Int),.int .i64 (s:Int),.int .i64 xz,.int .i64 xi] 89))=wa at*
 generalize w.heap.size=B at*
 have ne:Nonempty (In (XI base T M mv x z B 29 (d:Int) (s:Int) xz xi w fl c)):=⟨⟨wa,hX⟩⟩
 have p0:∀s':In (XI base T M mv x z B 29 (d:Int) (s:Int) xz xi w fl c),s'.w.cell? ⟨T,0,none⟩=some (.pointer (some ⟨M,0,none⟩)):=fun s'=>(XC.m s'.h).ptr
 have b1:∀s':In (XI base T M mv x z B 29 (d:Int) (s:Int) xz xi w fl c),s'.w.cell? ⟨B,1,none⟩=some (.int .i64 (d:Int)):=fun s'=>(XC.b s'.h).cells.1.2.1
 have b2:∀s':In (XI base T M mv x z B 29 (d:Int) (s:Int) xz xi w fl c),s'.w.cell? ⟨B,2,none⟩=some (.int .i64 (s:Int)):=fun s'=>(XC.b s'.h).cells.1.2.2.1
 have b4:∀s':In (XI base T M mv x z B 29 (d:Int) (s:Int) xz xi w fl c),s'.w.cell? ⟨B,4,none⟩=some (.int .i64 xi):=fun s'=>(XC.b s'.h).cells.1.2.2.2.2
 have rdd:∀s':In (XI base T M mv x z B 29 (d:Int) (s:Int) xz xi w fl c),s'.w.cell? ⟨M,d,none⟩=some (.int .u32 vd):=fun s'=>Hrd.out _ s'.h
 have rss:∀s':In (XI base T M mv x z B 29 (d:Int) (s:Int) xz xi w fl c),s'.w.cell? ⟨M,s,none⟩=some (.int .u32 vs):=fun s'=>Hrs.out _ s'.h
 have r00:∀s':In (XI base T M mv x z B 29 (d:Int) (s:Int) xz xi w fl c),s'.w.cell? ⟨M,0,none⟩=some (.int .u32 v0):=fun s'=>Hr0.out _ s'.h
 have ff:∀s':In (XI base T M mv x z B 29 (d:Int) (s:Int) xz xi w fl c),s'.w.cell? ⟨M,32,none⟩=some (.int .i64 f):=fun s'=>Hff.out _ s'.h
 refine L2 (XI base T M mv x z B 29 (d:Int) (s:Int) xz xi w fl c) 33 (by kernel_rfl) (by kernel_rfl) (XC.drew hX) ?_;dsimp only[List.take,List.drop]
 repeat(go_big_quiet_step (first|(go_at_call 170;with_reducible exact Calls.calm (CH.out _) (fun w' h=>HB.out _ _ (In.h _) h))|((go_at_call 169);with_reducible exact Calls.calm (CF.out _) (fun w' h=>by rw[←h];exact In.h _))))
 refine wpQuiet_nil ?_;intro wq hwq;clear ne p0 b1 b2 b4 rdd rss r00 ff;have hq:=(HR.out _ hwq)
 have hF:=HF.out _ hwq;obtain⟨hq1,hq2⟩:=hq;go_wp2_with fail
 rw[HO.out];exact bodyPost_end (v:=.tuple #[]) (by simp[results,results116,go_sem]) rfl ⟨rfl,hF.1,hF.2⟩
theorem A9J(d s:Nat)(hd:d<32)(hs:s<32)(w:World)(h:MSt base T M mv x z fl c w)(hxo:x.o=30)(hxd:x.d=(d:Int))(hxs:x.s=(s:Int)):Calls prog 116 #[.pointer (some ⟨T,0,none⟩)] w fun e w'=>e= .returned (.tuple #[])∧MSt base T M mv x z fl {c with r:=c.r.set d (c.r.getD s 0%256)} w'∧Ch T M mv w w':=by
 have x1:=h.xo;have x2:=h.xd;have x3:=h.xs;have x4:=h.xz;have x5:=h.xi;rw[hxo]at x1;rw[hxd]at x2;rw[hxs]at x3;have hT:=h.ltT;have hne:T≠w.heap.size:=by omega
 have hpw:=D8 h.zz;have b0:=h.rb 0;have bd:=h.rb d;have bs:=h.rb s;have hd1:(d:Int)<32:=by omega
 have hs1:(s:Int)<32:=by omega
 have fb:=h.fb;have Hrd:Hid (∀wk,XI base T M mv x z w.heap.size 30 (d:Int) (s:Int) x.z x.i w fl c wk→wk.cell? ⟨M,d,none⟩=some (.int .u32 (c.r.getD d 0))):=hid (fun wk hk=>((XC.m hk).reg hd).1);have Hrs:Hid (∀wk,XI base T M mv x z w.heap.size 30 (d:Int) (s:Int) x.z x.i w fl c wk→wk.cell? ⟨M,s,none⟩=some (.int .u32 (c.r.getD s 0))):=hid (fun wk hk=>((XC.m hk).reg hs).1);have Hr0:Hid (∀wk,XI base T M mv x z w.heap.size 30 (d:Int) (s:Int) x.z x.i w fl c wk→wk.cell? ⟨M,0,none⟩=some (.int .u32 (c.r.getD 0 0))):=hid (fun wk hk=>((XC.m hk).reg (d:=0) (by decide)).1);have Hff:Hid (∀wk,XI base T M mv x z w.heap.size 30 (d:Int) (s:Int) x.z x.i w fl c wk→wk.cell? ⟨M,32,none⟩=some (.int .i64 c.f)):=hid (fun wk hk=>(XC.m hk).flg.1);have HB:Hid (∀wk wk',XI base T M mv x z w.heap.size 30 (d:Int) (s:Int) x.z x.i w fl c wk→Below wk.heap.size wk wk'→XI base T M mv x z w.heap.size 30 (d:Int) (s:Int) x.z x.i w fl c wk'):=hid (fun wk wk' hk hb=>XC.next hk ((XC.m hk).same hb) (Ch.of_below hb));have HR:Hid (∀wk,XI base T M mv x z w.heap.size 30 (d:Int) (s:Int) x.z x.i w fl c wk→wk.cell? ⟨M,d,none⟩=some (.int .u32 (c.r.getD d 0))∧wk.frozen? ⟨M,d,none⟩=false):=hid (fun wk hk=>(XC.m hk).reg hd);have HF:Hid (∀wk,XI base T M mv x z w.heap.size 30 (d:Int) (s:Int) x.z x.i w fl c wk→MSt base T M mv x z fl {c with r:=c.r.set d (c.r.getD s 0%256)} (wk.setCell ⟨M,d,none⟩ (.int .u32 (c.r.getD s 0%256)))∧Ch T M mv w (wk.setCell ⟨M,d,none⟩ (.int .u32 (c.r.getD s 0%256)))):=hid (fun wk hk=>⟨(XC.m hk).setR hd (by omega) (by omega),(XC.ch hk).setM _ _⟩);have HA:=B2z (c.r.getD s 0) bs.1 bs.2;generalize x.z=xz at*
 generalize x.i=xi at*
 have hX:=XC.new h 30 (d:Int) (s:Int) xz xi;generalize c.r.getD 0 0=v0 at*
 generalize c.r.getD d 0=vd at*
 generalize c.r.getD s 0=vs at*
 generalize c.f=f at*
 clear h;go_enter func116,ntmps116;go_upto_region 49 with fail
 generalize(w.alloc (.cells #[.int .i64 30,.int .i64 (d:Int),.int .i64 (s:Int),.int .i64 xz,.int .i64 xi] 89))=wa at*
 generalize w.heap.size=B at*
 have ne:Nonempty (In (XI base T M mv x z B 30 (d:Int) (s:Int) xz xi w fl c)):=⟨⟨wa,hX⟩⟩
 have p0:∀s':In (XI base T M mv x z B 30 (d:Int) (s:Int) xz xi w fl c),s'.w.cell? ⟨T,0,none⟩=some (.pointer (some ⟨M,0,none⟩)):=fun s'=>(XC.m s'.h).ptr
 have b1:∀s':In (XI base T M mv x z B 30 (d:Int) (s:Int) xz xi w fl c),s'.w.cell? ⟨B,1,none⟩=some (.int .i64 (d:Int)):=fun s'=>(XC.b s'.h).cells.1.2.1
 have b2:∀s':In (XI base T M mv x z B 30 (d:Int) (s:Int) xz xi w fl c),s'.w.cell? ⟨B,2,none⟩=some (.int .i64 (s:Int)):=fun s'=>(XC.b s'.h).cells.1.2.2.1
 have b4:∀s':In (XI base T M mv x z B 30 (d:Int) (s:Int) xz xi w fl c),s'.w.cell? ⟨B,4,none⟩=some (.int .i64 xi):=fun s'=>(XC.b s'.h).cells.1.2.2.2.2
 have rdd:∀s':In (XI base T M mv x z B 30 (d:Int) (s:Int) xz xi w fl c),s'.w.cell? ⟨M,d,none⟩=some (.int .u32 vd):=fun s'=>Hrd.out _ s'.h
 have rss:∀s':In (XI base T M mv x z B 30 (d:Int) (s:Int) xz xi w fl c),s'.w.cell? ⟨M,s,none⟩=some (.int .u32 vs):=fun s'=>Hrs.out _ s'.h
 have r00:∀s':In (XI base T M mv x z B 30 (d:Int) (s:Int) xz xi w fl c),s'.w.cell? ⟨M,0,none⟩=some (.int .u32 v0):=fun s'=>Hr0.out _ s'.h
 have ff:∀s':In (XI base T M mv x z B 30 (d:Int) (s:Int) xz xi w fl c),s'.w.cell? ⟨M,32,none⟩=some (.int .i64 f):=fun s'=>Hff.out _ s'.h
 refine L2 (XI base T M mv x z B 30 (d:Int) (s:Int) xz xi w fl c) 20 (by kernel_rfl) (by kernel_rfl) (XC.drew hX) ?_;dsimp only[List.take,List.drop]
 repeat(go_big_quiet_step (fail))
 exact B3R
theorem A9I(d s:Nat)(hd:d<32)(hs:s<32)(w:World)(h:MSt base T M mv x z fl c w)(hxo:x.o=31)(hxd:x.d=(d:Int))(hxs:x.s=(s:Int))(hc:isC x.i=true):Calls prog 116 #[.pointer (some ⟨T,0,none⟩)] w fun e w'=>e= .returned (.tuple #[])∧MSt base T M mv x z fl (if hoB x.i c.f=true then{c with r:=c.r.set d (c.r.getD s 0)}else c) w'∧Ch T M mv w w':=by
 have x1:=h.xo;have x2:=h.xd;have x3:=h.xs;have x4:=h.xz;have x5:=h.xi;rw[hxo]at x1;rw[hxd]at x2;rw[hxs]at x3;have hT:=h.ltT;have hne:T≠w.heap.size:=by omega
 have hpw:=D8 h.zz;have b0:=h.rb 0;have bd:=h.rb d;have bs:=h.rb s;have hd1:(d:Int)<32:=by omega
 have hs1:(s:Int)<32:=by omega
 have fb:=h.fb;have Hrd:Hid (∀wk,XI base T M mv x z w.heap.size 31 (d:Int) (s:Int) x.z x.i w fl c wk→wk.cell? ⟨M,d,none⟩=some (.int .u32 (c.r.getD d 0))):=hid (fun wk hk=>((XC.m hk).reg hd).1);have Hrs:Hid (∀wk,XI base T M mv x z w.heap.size 31 (d:Int) (s:Int) x.z x.i w fl c wk→wk.cell? ⟨M,s,none⟩=some (.int .u32 (c.r.getD s 0))):=hid (fun wk hk=>((XC.m hk).reg hs).1);have Hr0:Hid (∀wk,XI base T M mv x z w.heap.size 31 (d:Int) (s:Int) x.z x.i w fl c wk→wk.cell? ⟨M,0,none⟩=some (.int .u32 (c.r.getD 0 0))):=hid (fun wk hk=>((XC.m hk).reg (d:=0) (by decide)).1);have Hff:Hid (∀wk,XI base T M mv x z w.heap.size 31 (d:Int) (s:Int) x.z x.i w fl c wk→wk.cell? ⟨M,32,none⟩=some (.int .i64 c.f)):=hid (fun wk hk=>(XC.m hk).flg.1);have HB:Hid (∀wk wk',XI base T M mv x z w.heap.size 31 (d:Int) (s:Int) x.z x.i w fl c wk→Below wk.heap.size wk wk'→XI base T M mv x z w.heap.size 31 (d:Int) (s:Int) x.z x.i w fl c wk'):=hid (fun wk wk' hk hb=>XC.next hk ((XC.m hk).same hb) (Ch.of_below hb));have HR:Hid (∀wk,XI base T M mv x z w.heap.size 31 (d:Int) (s:Int) x.z x.i w fl c wk→wk.cell? ⟨M,d,none⟩=some (.int .u32 (c.r.getD d 0))∧wk.frozen? ⟨M,d,none⟩=false):=hid (fun wk hk=>(XC.m hk).reg hd);have HF:Hid (∀wk,XI base T M mv x z w.heap.size 31 (d:Int) (s:Int) x.z x.i w fl c wk→MSt base T M mv x z fl {c with r:=c.r.set d (c.r.getD s 0)} (wk.setCell ⟨M,d,none⟩ (.int .u32 (c.r.getD s 0)))∧Ch T M mv w (wk.setCell ⟨M,d,none⟩ (.int .u32 (c.r.getD s 0)))):=hid (fun wk hk=>⟨(XC.m hk).setR hd bs.1 bs.2,(XC.ch hk).setM _ _⟩);have CH:=hid (fun wk=>p8 x.i c.f wk hc fb.1 fb.2);generalize hoB x.i c.f=hb at*
 clear hc;generalize x.z=xz at*
 generalize x.i=xi at*
 have hX:=XC.new h 31 (d:Int) (s:Int) xz xi;generalize c.r.getD 0 0=v0 at*
 generalize c.r.getD d 0=vd at*
 generalize c.r.getD s 0=vs at*
 generalize c.f=f at*
 clear h;go_enter func116,ntmps116;go_upto_region 51 with fail
 generalize(w.alloc (.cells #[.int .i64 31,.int .i64 (d:Int),.int .i64 (s:Int),.int .i64 xz,.int .i64 xi] 89))=wa at*
 generalize w.heap.size=B at*
 have ne:Nonempty (In (XI base T M mv x z B 31 (d:Int) (s:Int) xz xi w fl c)):=⟨⟨wa,hX⟩⟩
 have p0:∀s':In (XI base T M mv x z B 31 (d:Int) (s:Int) xz xi w fl c),s'.w.cell? ⟨T,0,none⟩=some (.pointer (some ⟨M,0,none⟩)):=fun s'=>(XC.m s'.h).ptr
 have b1:∀s':In (XI base T M mv x z B 31 (d:Int) (s:Int) xz xi w fl c),s'.w.cell? ⟨B,1,none⟩=some (.int .i64 (d:Int)):=fun s'=>(XC.b s'.h).cells.1.2.1
 have b2:∀s':In (XI base T M mv x z B 31 (d:Int) (s:Int) xz xi w fl c),s'.w.cell? ⟨B,2,none⟩=some (.int .i64 (s:Int)):=fun s'=>(XC.b s'.h).cells.1.2.2.1
 have b4:∀s':In (XI base T M mv x z B 31 (d:Int) (s:Int) xz xi w fl c),s'.w.cell? ⟨B,4,none⟩=some (.int .i64 xi):=fun s'=>(XC.b s'.h).cells.1.2.2.2.2
 have rdd:∀s':In (XI base T M mv x z B 31 (d:Int) (s:Int) xz xi w fl c),s'.w.cell? ⟨M,d,none⟩=some (.int .u32 vd):=fun s'=>Hrd.out _ s'.h
 have rss:∀s':In (XI base T M mv x z B 31 (d:Int) (s:Int) xz xi w fl c),s'.w.cell? ⟨M,s,none⟩=some (.int .u32 vs):=fun s'=>Hrs.out _ s'.h
 have r00:∀s':In (XI base T M mv x z B 31 (d:Int) (s:Int) xz xi w fl c),s'.w.cell? ⟨M,0,none⟩=some (.int .u32 v0):=fun s'=>Hr0.out _ s'.h
 have ff:∀s':In (XI base T M mv x z B 31 (d:Int) (s:Int) xz xi w fl c),s'.w.cell? ⟨M,32,none⟩=some (.int .i64 f):=fun s'=>Hff.out _ s'.h
 refine A1p (XI base T M mv x z B 31 (d:Int) (s:Int) xz xi w fl c) (by kernel_rfl) (by kernel_rfl) (XC.drew hX) ?_
 repeat(go_big_quiet_step ((go_at_call 170;with_reducible exact Calls.calm (CH.out _) (fun w' h=>HB.out _ _ (In.h _) h))))
 refine wpQuiet_nil ?_;intro w1 hw1;clear ne p0 b1 b2 b4 rdd rss r00 ff;clear hX;generalize wa=wa0 at*
 cases hb
 ·have hF:=(XC.m hw1)
  have hG:=(XC.ch hw1)
  go_wp2_with fail
  exact bodyPost_end (v:=.tuple #[]) (by simp[results,results116,go_sem]) rfl ⟨rfl,hF,hG⟩
 go_upto_region 52 with fail
 have hX:XC base T M mv x z B 31 (d:Int) (s:Int) xz xi w fl c w1:=hw1;generalize w1=wa at*
 have ne:Nonempty (In (XI base T M mv x z B 31 (d:Int) (s:Int) xz xi w fl c)):=⟨⟨wa,hX⟩⟩
 have p0:∀s':In (XI base T M mv x z B 31 (d:Int) (s:Int) xz xi w fl c),s'.w.cell? ⟨T,0,none⟩=some (.pointer (some ⟨M,0,none⟩)):=fun s'=>(XC.m s'.h).ptr
 have b1:∀s':In (XI base T M mv x z B 31 (d:Int) (s:Int) xz xi w fl c),s'.w.cell? ⟨B,1,none⟩=some (.int .i64 (d:Int)):=fun s'=>(XC.b s'.h).cells.1.2.1
 have b2:∀s':In (XI base T M mv x z B 31 (d:Int) (s:Int) xz xi w fl c),s'.w.cell? ⟨B,2,none⟩=some (.int .i64 (s:Int)):=fun s'=>(XC.b s'.h).cells.1.2.2.1
 have b4:∀s':In (XI base T M mv x z B 31 (d:Int) (s:Int) xz xi w fl c),s'.w.cell? ⟨B,4,none⟩=some (.int .i64 xi):=fun s'=>(XC.b s'.h).cells.1.2.2.2.2
 have rdd:∀s':In (XI base T M mv x z B 31 (d:Int) (s:Int) xz xi w fl c),s'.w.cell? ⟨M,d,none⟩=some (.int .u32 vd):=fun s'=>Hrd.out _ s'.h
 have rss:∀s':In (XI base T M mv x z B 31 (d:Int) (s:Int) xz xi w fl c),s'.w.cell? ⟨M,s,none⟩=some (.int .u32 vs):=fun s'=>Hrs.out _ s'.h
 have r00:∀s':In (XI base T M mv x z B 31 (d:Int) (s:Int) xz xi w fl c),s'.w.cell? ⟨M,0,none⟩=some (.int .u32 v0):=fun s'=>Hr0.out _ s'.h
 have ff:∀s':In (XI base T M mv x z B 31 (d:Int) (s:Int) xz xi w fl c),s'.w.cell? ⟨M,32,none⟩=some (.int .i64 f):=fun s'=>Hff.out _ s'.h
 refine L2 (XI base T M mv x z B 31 (d:Int) (s:Int) xz xi w fl c) 19 (by kernel_rfl) (by kernel_rfl) (XC.drew hX) ?_;dsimp only[List.take,List.drop]
 repeat(go_big_quiet_step ((go_at_call 170;with_reducible exact Calls.calm (CH.out _) (fun w' h=>HB.out _ _ (In.h _) h))))
 exact B3R
end
end Go.Proofs.YtajljbmeaeeknaaGreat
