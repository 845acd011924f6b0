/- -/
import Derived.Test.YtajljbmeaeeknaaGreatS9
import Derived.Test.YtajljbmeaeeknaaGreatS10
open Go.Proofs.Tryz
open Go.Lib (hid)
set_option maxHeartbeats 1000000
set_option maxRecDepth 100000
namespace Go.Proofs.YtajljbmeaeeknaaGreat
open Go.RowKit Go.Maps
set_option linter.unusedVariables false
set_option linter.unusedSimpArgs false
theorem A2d{n lo hi:Int}{q:Bool}(h:wiN n q lo hi=true):(lo≤n∧n<hi)∨n=0:=by
 unfold wiN at h;cases q
 ·right;simpa using h
 ·left;simpa using h
theorem s2{regs nb:Int}{x:Cd}(h:I9 regs nb x=true):(0≤x.o∧x.o≤27)∧(0≤x.d∧(x.d<regs∨x.d=0))∧(-1≤x.a∧(x.a<regs∨x.a=0))∧(0≤x.b∧(x.b<regs∨x.b=0))∧(0≤x.t∧(x.t<nb∨x.t=0)):=by
 unfold I9 at h;simp only[Bool.and_eq_true]at h;obtain⟨h1,h2,h3,h4,h5,-⟩:=h;have a1:=A2d h2;have a2:=A2d h3;have a3:=A2d h4;have a4:=A2d h5;have ho:0≤x.o∧x.o≤27:=by
  rcases R8 x.o with⟨e,-⟩|⟨e,-⟩|⟨e1,e2,e⟩|⟨e1,e2,e⟩|⟨e1,e2,e⟩|⟨e,-⟩|⟨e,-⟩|⟨e,-⟩|⟨e1,e⟩|⟨e1,e⟩
  all_goals(first|omega|(rw[e]at h1;simp[fdO]at h1))
 refine⟨ho,by omega,?_,by omega,by omega⟩;have:(-1:Int)≤(if fdM (clO x.o)=true then -1 else 0):=by split<;>decide
 omega
theorem x8{r:Int}(h: -1≤r∧r≤9):0≤rg0 r∧rg0 r≤31:=by unfold rg0;split<;>omega
theorem A4l{o d a b:Int}(ho:0≤o∧o≤14)(hd:0≤d∧d≤31)(ha:0≤a∧a≤31)(hb:0≤b∧b≤31):okR ⟨o,d,a,b,0⟩=true:=by
 have hf:fmR o=0:=by unfold fmR;rw[if_neg (by omega),if_pos ho.2]
 unfold okR;simp only[hf];simp[rgR,hdR,haR,hbR,fiR];omega
theorem A0h{o d a i f:Int}(hf:fmR o=f)(h:f=1∨f=4∨f=8)(hd:0≤d∧d≤31)(ha:0≤a∧a≤31)(hi: -2048≤i∧i≤2047):okR ⟨o,d,a,0,i⟩=true:=by
 unfold okR;simp only[hf];rcases h with rfl|rfl|rfl<;>(simp[rgR,hdR,haR,hbR,fiR];omega)
theorem A6m{d i:Int}(hd:0≤d∧d≤31)(hi:0≤i∧i<1048576):okR ⟨24,d,0,0,i⟩=true:=by
 have hf:fmR 24=3:=rfl;unfold okR;simp only[hf];simp[rgR,hdR,haR,hbR,fiR];omega
theorem A9H{o a b i:Int}(ho:28≤o∧o≤30)(ha:0≤a∧a≤31)(hb:0≤b∧b≤31)(hi: -2048≤i∧i≤2047):okR ⟨o,0,a,b,i⟩=true:=by
 have hf:fmR o=5:=by unfold fmR;rw[if_neg (by omega),if_neg (by omega),if_neg (by omega),if_neg (by omega),if_neg (by omega),if_neg (by omega),if_pos (by omega)]
 unfold okR;simp only[hf];simp[rgR,hdR,haR,hbR,fiR];omega
theorem A6U{o:Int}(h:25≤o∧o≤27):fmR o=4:=by
 unfold fmR;rw[if_neg (by omega),if_neg (by omega),if_neg (by omega),if_neg (by omega),if_neg (by omega),if_pos (by omega)]
theorem z7{o:Int}(h:15≤o∧o≤20):fmR o=1:=by
 unfold fmR;rw[if_neg (by omega),if_neg (by omega),if_pos (by omega)]
theorem A7X:∀k:Fin 15,0≤op0L.getD k.1 0∧op0L.getD k.1 0≤14:=by decide
theorem A4j{regs nb:Int}{x:Cd}(h:I9 regs nb x=true)(hr:regs≤10)(h1:x.i<4294967296)(hx:x.o≠24∧x.o≠25):Q4 (pl0 x)∧1≤(pl0 x).length∧(pl0 x).length≤3:=by
 obtain⟨ho,hd,ha,hb,-⟩:=s2 h;have d1:=x8 (r:=x.d) (by omega);have a1:=x8 (r:=x.a) (by omega);have b1:=x8 (r:=x.b) (by omega);have l1:=A6s x.i;have u1:=A6t x.i;have r31:(0:Int)≤31∧(31:Int)≤31:=by decide
 have r0:(0:Int)≤0∧(0:Int)≤31:=by decide
 have hbs:Q4 (bs0 x)∧(bs0 x).length≤2:=by
  by_cases hz:hiH x.i=0
  ·have e:bs0 x=[]:=by unfold bs0;rw[if_pos hz]
   rw[e];exact⟨fun y hy=>by simp at hy,by simp⟩
  ·have e:bs0 x=[⟨24,31,0,0,hiH x.i⟩,⟨0,31,31,rg0 x.a,0⟩]:=by unfold bs0;rw[if_neg hz]
   rw[e];refine⟨fun y hy=>?_,by simp⟩;simp only[List.mem_cons,List.not_mem_nil,or_false]at hy;rcases hy with rfl|rfl
   ·exact A6m r31 u1
   ·exact A4l (by decide) r31 r31 a1
 have hbf:0≤bf0 x∧bf0 x≤31:=by unfold bf0;split;exact a1;exact r31
 unfold pl0
 split
 ·unfold nb0
  split
  ·exact⟨fun y hy=>by simp only[List.mem_cons,List.not_mem_nil,or_false]at hy;subst hy;exact A0h (z7 (by decide)) (.inl rfl) d1 r0 l1,by simp,by simp⟩
  ·refine⟨fun y hy=>?_,by simp,by simp⟩;simp only[List.mem_cons,List.not_mem_nil,or_false]at hy;rcases hy with rfl|rfl
   ·exact A6m d1 u1
   ·exact A0h (z7 (by decide)) (.inl rfl) d1 d1 l1
 split
 ·exact⟨fun y hy=>by simp only[List.mem_cons,List.not_mem_nil,or_false]at hy;subst hy;exact A0h (z7 (by decide)) (.inl rfl) d1 a1 (by decide),by simp,by simp⟩
 split
 ·refine⟨fun y hy=>?_,by simp,by simp⟩;simp only[List.mem_cons,List.not_mem_nil,or_false]at hy;rcases hy with rfl|rfl
  ·exact A4l (by decide) r31 a1 b1
  ·exact A0h (z7 (by decide)) (.inl rfl) d1 r31 (by decide)
 split
 ·rename_i h2
  have hk:(x.o-2).toNat<15:=by omega
  have hop:=A7X ⟨(x.o-2).toNat,hk⟩;exact⟨fun y hy=>by simp only[List.mem_cons,List.not_mem_nil,or_false]at hy;subst hy;exact A4l hop d1 a1 b1,by simp,by simp⟩
 split
 ·rename_i h2
  refine⟨fun y hy=>?_,by simp,by simp;omega⟩;simp only[List.mem_append,List.mem_cons,List.not_mem_nil,or_false]at hy;rcases hy with hy|rfl
  ·exact hbs.1 y hy
  ·exact A0h (A6U (by omega)) (.inr (.inl rfl)) d1 hbf l1
 split
 ·rename_i h2
  refine⟨fun y hy=>?_,by simp,by simp;omega⟩;simp only[List.mem_append,List.mem_cons,List.not_mem_nil,or_false]at hy;rcases hy with hy|rfl
  ·exact hbs.1 y hy
  ·exact A9H (by omega) hbf b1 l1
 split
 ·exact⟨fun y hy=>by simp only[List.mem_cons,List.not_mem_nil,or_false]at hy;subst hy;decide,by simp,by simp⟩
 ·exact⟨fun y hy=>by simp only[List.mem_cons,List.not_mem_nil,or_false]at hy;subst hy;decide,by simp,by simp⟩
theorem A1o{regs nb:Int}(x:Cd)(h:I9 regs nb x=true)(hr:regs≤10)(h0:0≤x.i)(h1:x.i<4294967296)(hx:x.o≠24∧x.o≠25)(w:World):Calls prog 268 #[.agg #[],ncV x] w fun e w'=>∃u,e= .returned u∧RowI w' w.heap.size 5 .u8 u (H0 (pl0 x))∧Below w.heap.size w w':=by
 obtain⟨ho,hd,ha,hb,-⟩:=s2 h;obtain⟨hall,-,-⟩:=A4j h hr h1 hx;have kd:x.d≤1000:=by omega
 have ka:x.a≤1000:=by omega
 have kb:x.b≤1000:=by omega
 unfold pl0 at hall⊢;by_cases e0:x.o=0
 ·rw[if_pos e0]at hall⊢;exact A4h x h0 h1 kd ka kb e0 hall w
 rw[if_neg e0]at hall⊢;by_cases e1:x.o=1
 ·rw[if_pos e1]at hall⊢;exact A4g x h0 h1 kd ka kb e1 hall w
 rw[if_neg e1]at hall⊢;by_cases e2:x.o=17
 ·rw[if_pos e2]at hall⊢;exact A3V x h0 h1 kd ka kb e2 hall w
 rw[if_neg e2]at hall⊢;by_cases e3:2≤x.o∧x.o≤16
 ·rw[if_pos e3]at hall⊢;exact A4f x h0 h1 kd ka kb e3 hall w
 rw[if_neg e3]at hall⊢;by_cases e4:18≤x.o∧x.o≤20
 ·rw[if_pos e4]at hall⊢;exact A3U x h0 h1 kd ka kb e4 hall w
 rw[if_neg e4]at hall⊢;by_cases e5:21≤x.o∧x.o≤23
 ·rw[if_pos e5]at hall⊢;exact A3T x h0 h1 kd ka kb e5 hall w
 rw[if_neg e5]at hall⊢;by_cases e6:x.o=26
 ·rw[if_pos e6]at hall⊢;exact A3S x h0 h1 kd ka kb e6 hall w
 rw[if_neg e6]at hall⊢;exact A3R x h0 h1 kd ka kb (by omega) hall w
theorem A0g{p:Prop}(h:p:=by
 (first|assumption|exact Since.next (show Since W1 wa by assumption) h9|exact Since.drew (by assumption)|exact Since.next (by assumption) ((Below.refl _ _).alloc (Nat.le_refl _) _)|exact Since.next (by assumption) (by assumption))
 ):p:=h
theorem A3A{p:Prop}(h:p:=by
 refine wpAnyH_done (by kernel_rfl) ?_ _;have hS9:Since W1 w9:=by assumption
 go_wp2_with fail
 go_ret;exact⟨u,rfl,hu,A8 BB.out hS9⟩
 ):p:=h
def L9(o:Int):Bool:=o==24||o==25
theorem S5(o:Int)(w:World):Calls prog 36 #[.int .i64 o] w fun e w'=>e= .returned (.bool (L9 o))∧w=w':=by
 unfold L9;cases h1:(o==24)<;>cases h2:(o==25)<;>(
  go_enter func36,ntmps36;go_wp2_with fail
  go_ret;exact⟨rfl,rfl⟩)
def A4I(long:Bool):Nat:=if long then 8 else 4
theorem A8e(x:Cd)(long:Bool)(w:World):Calls prog 271 #[.agg #[],ncV x,.bool long] w fun e w'=>e= .returned (.int .i64 (A4I long:Nat))∧Below w.heap.size w w':=by
 obtain⟨o,d,a,b,i,t⟩:=x;show Calls prog 271 #[.agg #[],.agg #[.int .i64 o,.int .i64 d,.int .i64 a,.int .i64 b,.int .u32 i,.int .i64 t],.bool long] w _
 obtain⟨hb1,k1⟩:=B9 (w.alloc (.cells #[] 188)) [.int .i64 o,.int .i64 d,.int .i64 a,.int .i64 b,.int .u32 i,.int .i64 t] 61;have hb0:Below w.heap.size w (w.alloc (.cells #[] 188)):=(Below.refl _ _).alloc (Nat.le_refl _) _;obtain⟨W1,hW1⟩:∃W,(w.alloc (.cells #[] 188)).alloc (.cells #[.int .i64 o,.int .i64 d,.int .i64 a,.int .i64 b,.int .u32 i,.int .i64 t] 61)=W:=⟨_,rfl⟩
 rw[show([.int .i64 o,.int .i64 d,.int .i64 a,.int .i64 b,.int .u32 i,.int .i64 t]:List Value).toArray=#[.int .i64 o,.int .i64 d,.int .i64 a,.int .i64 b,.int .u32 i,.int .i64 t]from rfl,hW1]at hb1 k1;rw[show(w.alloc (.cells #[] 188)).heap.size=w.heap.size+1 by simp]at k1;have BB:Hid (Since w W1):=hid (A8 hb0 hb1);have x0:=(k1 0 _ rfl).1;have x2:=(k1 2 _ rfl).1;have hs:w.heap.size+1<W1.heap.size:=B6 x0;clear k1 hb0 hb1;cases long<;>(
  go_enter func271,ntmps271;go_wp2_with fail
  go_ret;exact⟨rfl,BB.out⟩)
def A0f(o p q:Int):Bool:=o==24||(decide (-4096≤q-p)&&decide (q-p≤4094))
theorem A4S(x:Cd)(p q:Int)(hp:0≤p∧p≤100000)(hq:0≤q∧q≤100000)(w:World):Calls prog 269 #[.agg #[],ncV x,.int .i64 p,.int .i64 q] w fun e w'=>e= .returned (.bool (A0f x.o p q))∧Below w.heap.size w w':=by
 obtain⟨o,d,a,b,i,t⟩:=x;show Calls prog 269 #[.agg #[],.agg #[.int .i64 o,.int .i64 d,.int .i64 a,.int .i64 b,.int .u32 i,.int .i64 t],.int .i64 p,.int .i64 q] w _
 obtain⟨hb1,k1⟩:=B9 (w.alloc (.cells #[] 188)) [.int .i64 o,.int .i64 d,.int .i64 a,.int .i64 b,.int .u32 i,.int .i64 t] 61;have hb0:Below w.heap.size w (w.alloc (.cells #[] 188)):=(Below.refl _ _).alloc (Nat.le_refl _) _;obtain⟨W1,hW1⟩:∃W,(w.alloc (.cells #[] 188)).alloc (.cells #[.int .i64 o,.int .i64 d,.int .i64 a,.int .i64 b,.int .u32 i,.int .i64 t] 61)=W:=⟨_,rfl⟩
 rw[show([.int .i64 o,.int .i64 d,.int .i64 a,.int .i64 b,.int .u32 i,.int .i64 t]:List Value).toArray=#[.int .i64 o,.int .i64 d,.int .i64 a,.int .i64 b,.int .u32 i,.int .i64 t]from rfl,hW1]at hb1 k1;rw[show(w.alloc (.cells #[] 188)).heap.size=w.heap.size+1 by simp]at k1;have BB:Hid (Since w W1):=hid (A8 hb0 hb1);have x0:=(k1 0 _ rfl).1;have x2:=(k1 2 _ rfl).1;have hs:w.heap.size+1<W1.heap.size:=B6 x0;clear k1 hb0 hb1;have hs1:IntKind.i64.wrap (q-p)=q-p:=by rw[IntWalk.i64_left];exact IntWalk.wrap64_in _ (by omega)
 simp only[A0f];cases h1:(o==24)<;>cases h2:decide (-4096≤q-p)<;>cases h3:decide (q-p≤4094)<;>(
  go_enter func269,ntmps269;go_wp2_with fail
  go_ret;exact⟨rfl,BB.out⟩)
def br0(x:Cd)(long:Bool)(p q:Int):List Rv:=
 if x.o=24 then[⟨37,0,0,0,q-p⟩]else if long then[⟨31,0,rg0 x.a,0,8⟩,⟨37,0,0,0,q-p-4⟩]else[⟨32,0,rg0 x.a,0,q-p⟩]
theorem A6o{o a i:Int}(ho:o=31∨o=32)(ha:0≤a∧a≤31)(hi: -4096≤i∧i≤4094∧i%2=0):okR ⟨o,0,a,0,i⟩=true:=by
 have hf:fmR o=6:=by rcases ho with rfl|rfl<;>rfl
 unfold okR;simp only[hf];simp[rgR,hdR,haR,hbR,fiR];omega
theorem A6n{i:Int}(hi: -1048576≤i∧i≤1048574∧i%2=0):okR ⟨37,0,0,0,i⟩=true:=by
 have hf:fmR 37=7:=rfl;unfold okR;simp only[hf];simp[rgR,hdR,haR,hbR,fiR];omega
theorem A8R{regs nb:Int}{x:Cd}(h:I9 regs nb x=true)(hr:regs≤10){long:Bool}{p q:Int}(hx:x.o=24∨x.o=25)(hp:0≤p∧p≤100000∧p%4=0)(hq:0≤q∧q≤100000∧q%4=0)(hl:long=true∨A0f x.o p q=true):Q4 (br0 x long p q)∧(br0 x long p q).length=(if x.o=24 then 1 else if long then 2 else 1):=by
 obtain⟨-,-,ha,-,-⟩:=s2 h;have a1:=x8 (r:=x.a) (by omega);unfold br0;by_cases h1:x.o=24
 ·rw[if_pos h1,if_pos h1];exact⟨fun y hy=>by simp only[List.mem_cons,List.not_mem_nil,or_false]at hy;subst hy;exact A6n (by omega),by simp⟩
 rw[if_neg h1,if_neg h1];by_cases h2:long=true
 ·rw[if_pos h2,if_pos h2];refine⟨fun y hy=>?_,by simp⟩;simp only[List.mem_cons,List.not_mem_nil,or_false]at hy;rcases hy with rfl|rfl
  ·exact A6o (.inl rfl) a1 (by decide)
  ·exact A6n (by omega)
 ·rw[if_neg h2,if_neg h2];have h3:A0f x.o p q=true:=hl.resolve_left h2;have h4:(-4096≤q-p∧q-p≤4094):=by
   unfold A0f at h3;rw[beq_eq_false_iff_ne.2 h1]at h3;simpa using h3
  exact⟨fun y hy=>by simp only[List.mem_cons,List.not_mem_nil,or_false]at hy;subst hy;exact A6o (.inr rfl) a1 (by omega),by simp⟩
theorem A3q(x:Cd)(long:Bool)(p q:Int)(hp:0≤p∧p≤100000)(hq:0≤q∧q≤100000)(ha:x.a≤1000)(HO:x.o=24)(hall:Q4 [⟨37,0,0,0,q-p⟩])(w:World):Calls prog 267 #[.agg #[],ncV x,.bool long,.int .i64 p,.int .i64 q] w fun e w'=>∃u,e= .returned u∧RowI w' w.heap.size 5 .u8 u (H0 [⟨37,0,0,0,q-p⟩])∧Below w.heap.size w w':=by
 obtain⟨o,d,a,b,i,t⟩:=x;show Calls prog 267 #[.agg #[],.agg #[.int .i64 o,.int .i64 d,.int .i64 a,.int .i64 b,.int .u32 i,.int .i64 t],.bool long,.int .i64 p,.int .i64 q] w _
 obtain⟨hb1,k1⟩:=B9 (w.alloc (.cells #[] 188)) [.int .i64 o,.int .i64 d,.int .i64 a,.int .i64 b,.int .u32 i,.int .i64 t] 61;have hb0:Below w.heap.size w (w.alloc (.cells #[] 188)):=(Below.refl _ _).alloc (Nat.le_refl _) _;obtain⟨W1,hW1⟩:∃W,(w.alloc (.cells #[] 188)).alloc (.cells #[.int .i64 o,.int .i64 d,.int .i64 a,.int .i64 b,.int .u32 i,.int .i64 t] 61)=W:=⟨_,rfl⟩
 rw[show([.int .i64 o,.int .i64 d,.int .i64 a,.int .i64 b,.int .u32 i,.int .i64 t]:List Value).toArray=#[.int .i64 o,.int .i64 d,.int .i64 a,.int .i64 b,.int .u32 i,.int .i64 t]from rfl,hW1]at hb1 k1;rw[show(w.alloc (.cells #[] 188)).heap.size=w.heap.size+1 by simp]at k1;have BB:Hid (Since w W1):=hid (A8 hb0 hb1);have x0:=(k1 0 _ rfl).1;have x2:=(k1 2 _ rfl).1;have hs:w.heap.size+1<W1.heap.size:=B6 x0;clear k1 hb0 hb1;simp only at HO hall ha;subst HO;have hs1:IntKind.i64.wrap (q-p)=q-p:=by rw[IntWalk.i64_left];exact IntWalk.wrap64_in _ (by omega)
 have hs2:IntKind.i64.wrap (q-p-4)=q-p-4:=by rw[IntWalk.i64_left];exact IntWalk.wrap64_in _ (by omega)
 have C2:=hid (E0 a ha);have h00:=Since.refl W1;generalize rg0 a=ra at*
 have CB:Hid (∀wk,Since W1 wk→Calls prog 272 #[.agg #[],.slice (some ⟨wk.heap.size,0,none⟩) 1 1] (wk.alloc (.cells #[.int .i64 37,.int .i64 0,.int .i64 0,.int .i64 0,.int .i64 (q-p)] 75)) fun e w'=>∃u,e= .returned u∧RowI w' w.heap.size 5 .u8 u (H0 [⟨37,0,0,0,q-p⟩])∧Below wk.heap.size wk w'):=hid (fun wk h=>(I5 [⟨37,0,0,0,q-p⟩] _ _ (L5 (w:=wk) (xs:=[⟨37,0,0,0,q-p⟩]) (by simp)) hall (by simp)).mono fun e w' ⟨u,h1,h2,h3⟩=>⟨u,h1,World.ownsRow.mono h2 (by have:=h.size;simp;omega),A8 ((Below.refl _ _).alloc (Nat.le_refl _) _) h3⟩);go_enter func267,ntmps267;go_upto_region 60 with(go_at_call 272;with_reducible refine(CB.out _ (by assumption)).mono ?_;rintro e w9 ⟨u,rfl,hu,h9⟩)
 go_ret;exact⟨u,rfl,hu,A8 BB.out h9⟩
theorem A3p(x:Cd)(p q:Int)(hp:0≤p∧p≤100000)(hq:0≤q∧q≤100000)(ha:x.a≤1000)(HO:x.o=25)(hall:Q4 [⟨31,0,rg0 x.a,0,8⟩,⟨37,0,0,0,q-p-4⟩])(w:World):Calls prog 267 #[.agg #[],ncV x,.bool true,.int .i64 p,.int .i64 q] w fun e w'=>∃u,e= .returned u∧RowI w' w.heap.size 5 .u8 u (H0 [⟨31,0,rg0 x.a,0,8⟩,⟨37,0,0,0,q-p-4⟩])∧Below w.heap.size w w':=by
 obtain⟨o,d,a,b,i,t⟩:=x;show Calls prog 267 #[.agg #[],.agg #[.int .i64 o,.int .i64 d,.int .i64 a,.int .i64 b,.int .u32 i,.int .i64 t],.bool true,.int .i64 p,.int .i64 q] w _
 obtain⟨hb1,k1⟩:=B9 (w.alloc (.cells #[] 188)) [.int .i64 o,.int .i64 d,.int .i64 a,.int .i64 b,.int .u32 i,.int .i64 t] 61;have hb0:Below w.heap.size w (w.alloc (.cells #[] 188)):=(Below.refl _ _).alloc (Nat.le_refl _) _;obtain⟨W1,hW1⟩:∃W,(w.alloc (.cells #[] 188)).alloc (.cells #[.int .i64 o,.int .i64 d,.int .i64 a,.int .i64 b,.int .u32 i,.int .i64 t] 61)=W:=⟨_,rfl⟩
 rw[show([.int .i64 o,.int .i64 d,.int .i64 a,.int .i64 b,.int .u32 i,.int .i64 t]:List Value).toArray=#[.int .i64 o,.int .i64 d,.int .i64 a,.int .i64 b,.int .u32 i,.int .i64 t]from rfl,hW1]at hb1 k1;rw[show(w.alloc (.cells #[] 188)).heap.size=w.heap.size+1 by simp]at k1;have BB:Hid (Since w W1):=hid (A8 hb0 hb1);have x0:=(k1 0 _ rfl).1;have x2:=(k1 2 _ rfl).1;have hs:w.heap.size+1<W1.heap.size:=B6 x0;clear k1 hb0 hb1;simp only at HO hall ha;subst HO;have hs1:IntKind.i64.wrap (q-p)=q-p:=by rw[IntWalk.i64_left];exact IntWalk.wrap64_in _ (by omega)
 have hs2:IntKind.i64.wrap (q-p-4)=q-p-4:=by rw[IntWalk.i64_left];exact IntWalk.wrap64_in _ (by omega)
 have C2:=hid (E0 a ha);have h00:=Since.refl W1;generalize rg0 a=ra at*
 have CB:Hid (∀wk,Since W1 wk→Calls prog 272 #[.agg #[],.slice (some ⟨wk.heap.size,0,none⟩) 2 2] (wk.alloc (.cells #[.int .i64 31,.int .i64 0,.int .i64 ra,.int .i64 0,.int .i64 8,.int .i64 37,.int .i64 0,.int .i64 0,.int .i64 0,.int .i64 (q-p-4)] 75)) fun e w'=>∃u,e= .returned u∧RowI w' w.heap.size 5 .u8 u (H0 [⟨31,0,ra,0,8⟩,⟨37,0,0,0,q-p-4⟩])∧Below wk.heap.size wk w'):=hid (fun wk h=>(I5 [⟨31,0,ra,0,8⟩,⟨37,0,0,0,q-p-4⟩] _ _ (L5 (w:=wk) (xs:=[⟨31,0,ra,0,8⟩,⟨37,0,0,0,q-p-4⟩]) (by simp)) hall (by simp)).mono fun e w' ⟨u,h1,h2,h3⟩=>⟨u,h1,World.ownsRow.mono h2 (by have:=h.size;simp;omega),A8 ((Below.refl _ _).alloc (Nat.le_refl _) _) h3⟩);go_enter func267,ntmps267;go_upto_region 4 with fail
 have h00:Since W1 W1:=Since.refl W1;have X2:∀wk,Since W1 wk→wk.cell? ⟨w.heap.size+1,2,none⟩=some (.int .i64 a):=fun wk h=>A7 h hs x2
 clear x0 x2;refine wp_region_held_drew (S:=(fun wk=>Since W1 wk)) (by kernel_rfl) ?_ (fun hHeld=>?_)
 ·exact A0g
 refine tk 0 ?_;refine tk 1 ?_;refine tk 2 ?_;refine tk 3 ?_;refine tk 6 ?_;refine tk 7 ?_;refine tk 8 ?_;refine tk 9 ?_;refine tk 10 ?_;refine rd1 4 (fun K hK=>?_)
 (go_simp;(go_at_call 273;with_reducible refine(C2.out _).mono ?_;rintro e wa ⟨rfl,hba⟩))
 refine hK.out _ _ ?_ (fun hHeld=>?_)
 ·exact A0g
 clear hK K
 try go_frame
 refine tk 5 ?_;refine rd1 11 (fun K hK=>?_);go_simp;refine hK.out _ _ ?_ (fun hHeld=>?_)
 ·exact A0g
 clear hK K
 try go_frame
 refine rd1 12 (fun K hK=>?_)
 (go_simp;(go_at_call 272;(refine(CB.out _ (by first|assumption|exact Since.drew (by assumption))).mono ?_);rintro e w9 ⟨u,rfl,hu,h9⟩))
 refine hK.out _ _ ?_ (fun hHeld=>?_)
 ·exact A0g
 clear hK K
 try go_frame
 refine tk 13 ?_;exact A3A
theorem A3o(x:Cd)(p q:Int)(hp:0≤p∧p≤100000)(hq:0≤q∧q≤100000)(ha:x.a≤1000)(HO:x.o=25)(hall:Q4 [⟨32,0,rg0 x.a,0,q-p⟩])(w:World):Calls prog 267 #[.agg #[],ncV x,.bool false,.int .i64 p,.int .i64 q] w fun e w'=>∃u,e= .returned u∧RowI w' w.heap.size 5 .u8 u (H0 [⟨32,0,rg0 x.a,0,q-p⟩])∧Below w.heap.size w w':=by
 obtain⟨o,d,a,b,i,t⟩:=x;show Calls prog 267 #[.agg #[],.agg #[.int .i64 o,.int .i64 d,.int .i64 a,.int .i64 b,.int .u32 i,.int .i64 t],.bool false,.int .i64 p,.int .i64 q] w _
 obtain⟨hb1,k1⟩:=B9 (w.alloc (.cells #[] 188)) [.int .i64 o,.int .i64 d,.int .i64 a,.int .i64 b,.int .u32 i,.int .i64 t] 61;have hb0:Below w.heap.size w (w.alloc (.cells #[] 188)):=(Below.refl _ _).alloc (Nat.le_refl _) _;obtain⟨W1,hW1⟩:∃W,(w.alloc (.cells #[] 188)).alloc (.cells #[.int .i64 o,.int .i64 d,.int .i64 a,.int .i64 b,.int .u32 i,.int .i64 t] 61)=W:=⟨_,rfl⟩
 rw[show([.int .i64 o,.int .i64 d,.int .i64 a,.int .i64 b,.int .u32 i,.int .i64 t]:List Value).toArray=#[.int .i64 o,.int .i64 d,.int .i64 a,.int .i64 b,.int .u32 i,.int .i64 t]from rfl,hW1]at hb1 k1;rw[show(w.alloc (.cells #[] 188)).heap.size=w.heap.size+1 by simp]at k1;have BB:Hid (Since w W1):=hid (A8 hb0 hb1);have x0:=(k1 0 _ rfl).1;have x2:=(k1 2 _ rfl).1;have hs:w.heap.size+1<W1.heap.size:=B6 x0;clear k1 hb0 hb1;simp only at HO hall ha;subst HO;have hs1:IntKind.i64.wrap (q-p)=q-p:=by rw[IntWalk.i64_left];exact IntWalk.wrap64_in _ (by omega)
 have hs2:IntKind.i64.wrap (q-p-4)=q-p-4:=by rw[IntWalk.i64_left];exact IntWalk.wrap64_in _ (by omega)
 have C2:=hid (E0 a ha);have h00:=Since.refl W1;generalize rg0 a=ra at*
 have CB:Hid (∀wk,Since W1 wk→Calls prog 272 #[.agg #[],.slice (some ⟨wk.heap.size,0,none⟩) 1 1] (wk.alloc (.cells #[.int .i64 32,.int .i64 0,.int .i64 ra,.int .i64 0,.int .i64 (q-p)] 75)) fun e w'=>∃u,e= .returned u∧RowI w' w.heap.size 5 .u8 u (H0 [⟨32,0,ra,0,q-p⟩])∧Below wk.heap.size wk w'):=hid (fun wk h=>(I5 [⟨32,0,ra,0,q-p⟩] _ _ (L5 (w:=wk) (xs:=[⟨32,0,ra,0,q-p⟩]) (by simp)) hall (by simp)).mono fun e w' ⟨u,h1,h2,h3⟩=>⟨u,h1,World.ownsRow.mono h2 (by have:=h.size;simp;omega),A8 ((Below.refl _ _).alloc (Nat.le_refl _) _) h3⟩);go_enter func267,ntmps267;go_upto_region 5 with fail
 have h00:Since W1 W1:=Since.refl W1;have X2:∀wk,Since W1 wk→wk.cell? ⟨w.heap.size+1,2,none⟩=some (.int .i64 a):=fun wk h=>A7 h hs x2
 clear x0 x2;refine wp_region_held_drew (S:=(fun wk=>Since W1 wk)) (by kernel_rfl) ?_ (fun hHeld=>?_)
 ·exact A0g
 refine tk 0 ?_;refine tk 1 ?_;refine tk 2 ?_;refine tk 3 ?_;refine tk 5 ?_;refine tk 6 ?_;refine tk 7 ?_;refine rd1 4 (fun K hK=>?_)
 (go_simp;(go_at_call 273;with_reducible refine(C2.out _).mono ?_;rintro e wa ⟨rfl,hba⟩))
 refine hK.out _ _ ?_ (fun hHeld=>?_)
 ·exact A0g
 clear hK K
 try go_frame
 refine tk 8 ?_;refine rd1 9 (fun K hK=>?_);go_simp;refine hK.out _ _ ?_ (fun hHeld=>?_)
 ·exact A0g
 clear hK K
 try go_frame
 refine rd1 10 (fun K hK=>?_)
 (go_simp;(go_at_call 272;(refine(CB.out _ (by first|assumption|exact Since.drew (by assumption))).mono ?_);rintro e w9 ⟨u,rfl,hu,h9⟩))
 refine hK.out _ _ ?_ (fun hHeld=>?_)
 ·exact A0g
 clear hK K
 try go_frame
 refine tk 11 ?_;exact A3A
theorem A6a{regs nb:Int}(x:Cd)(h:I9 regs nb x=true)(hr:regs≤10)(long:Bool)(p q:Int)(hx:x.o=24∨x.o=25)(hp:0≤p∧p≤100000∧p%4=0)(hq:0≤q∧q≤100000∧q%4=0)(hl:long=true∨A0f x.o p q=true)(w:World):Calls prog 267 #[.agg #[],ncV x,.bool long,.int .i64 p,.int .i64 q] w fun e w'=>∃u,e= .returned u∧RowI w' w.heap.size 5 .u8 u (H0 (br0 x long p q))∧Below w.heap.size w w':=by
 obtain⟨-,-,ha,-,-⟩:=s2 h;have ha:x.a≤1000:=by omega
 have hall:=(A8R h hr hx hp hq hl).1;unfold br0 at hall⊢;by_cases h1:x.o=24
 ·rw[if_pos h1]at hall⊢;exact A3q x long p q (by omega) (by omega) ha h1 hall w
 have h2:x.o=25:=by omega
 rw[if_neg h1]at hall⊢;cases long
 ·rw[if_neg (by decide)]at hall⊢;exact A3o x p q (by omega) (by omega) ha h2 hall w
 ·rw[if_pos rfl]at hall⊢;exact A3p x p q (by omega) (by omega) ha h2 hall w
def E8:List Ins→List Int
 |[]=>[]
 |x::r=>V3 x++E8 r
theorem A1R(a b:List Ins):E8 (a++b)=E8 a++E8 b:=by
 induction a with
 |nil=>rfl
 |cons x r ih=>simp only[List.cons_append,E8,ih,List.append_assoc]
theorem A3n(a:List Ins)(x:Ins):E8 (a++[x])=E8 a++V3 x:=by rw[A1R];simp[E8]
def J4(xs:List Ins):Prop:=∀x∈xs,okI x=true
theorem A1Q{xs:List Ins}(h:J4 xs):(E8 xs).length≤9*xs.length:=by
 induction xs with
 |nil=>exact Nat.le_refl _
 |cons x r ih=>
  have h1:=(A0C (h x (List.mem_cons_self ..))).2;have h2:=ih (fun y hy=>h y (List.mem_cons_of_mem _ hy));simp only[E8,List.length_append,List.length_cons];omega
/-! ### memory -/
def A9s(w:World)(b o:Nat)(x:Ins):Prop:=
 w.cell? ⟨b,o,none⟩=some (.int .i64 x.o)∧w.cell? ⟨b,o+1,none⟩=some (.int .i64 x.d)∧w.cell? ⟨b,o+2,none⟩=some (.int .i64 x.s)∧w.cell? ⟨b,o+3,none⟩=some (.int .i64 x.z)∧w.cell? ⟨b,o+4,none⟩=some (.int .i64 x.i)
def Ias(w:World)(v:Value)(xs:List Ins):Prop:=Slc w v xs.length 5 fun i b o=>A9s w b o (xs.getD i default)
theorem Ias.stays{w w':World}{v:Value}{xs:List Ins}(h:Ias w v xs)(hb:Below w.heap.size w w'):Ias w' v xs:=
 Slc.stays h hb fun _ _ _ hlt hc=>⟨A7 hb hlt hc.1,A7 hb hlt hc.2.1,A7 hb hlt hc.2.2.1,A7 hb hlt hc.2.2.2.1,A7 hb hlt hc.2.2.2.2⟩
theorem Ias.shape{w:World}{v:Value}{xs:List Ins}(h:Ias w v xs):∃a c,v= .slice a xs.length c∧xs.length≤c∧xs.length≤140737488351232:=by
 obtain⟨a,c,e,h1,h2,_⟩:=h;exact⟨a,c,e,h1,h2.1⟩
theorem Ias.at{w:World}{v:Value}{xs:List Ins}(h:Ias w v xs){j:Nat}(hj:j<xs.length):∃b q c,v= .slice (some ⟨b,q,none⟩) xs.length c∧xs.length≤c∧b<w.heap.size∧A9s w b (q+j*5) (xs.getD j default):=by
 obtain⟨a,c,e,h1,h2,h3,h4⟩:=h;obtain⟨b,q,rfl,h5,h6⟩:=h4 j hj;exact⟨b,q,c,e,h1,h5,h6⟩
def iaC(x:Ins):List Value:=[.int .i64 x.o,.int .i64 x.d,.int .i64 x.s,.int .i64 x.z,.int .i64 x.i]
def M0:List Ins→List Value
 |[]=>[]
 |x::r=>iaC x++M0 r
theorem A0r(xs:List Ins):(M0 xs).length=xs.length*5:=by
 induction xs with
 |nil=>rfl
 |cons x r ih=>simp only[M0,iaC,List.length_append,ih,List.length_cons,List.length_nil];omega
theorem A3d(xs:List Ins)(x:Ins):M0 (xs++[x])=M0 xs++iaC x:=by
 induction xs with
 |nil=>simp[M0]
 |cons y r ih=>simp only[List.cons_append,M0,ih,List.append_assoc]
theorem A0s:∀(xs:List Ins) (i j:Nat),i<xs.length→j<5→(M0 xs)[i*5+j]? =(iaC (xs.getD i default))[j]?
 |[],i,j,h,_=>absurd h (Nat.not_lt_zero _)
 |x::r,0,j,_,hj=>by
  show(iaC x++M0 r)[0*5+j]? =_
  rw[List.getElem?_append_left (by simp[iaC];omega)];simp
 |x::r,i+1,j,h,hj=>by
  show(iaC x++M0 r)[(i+1)*5+j]? =_
  rw[List.getElem?_append_right (by simp[iaC];omega)];have e:(i+1)*5+j-(iaC x).length=i*5+j:=by simp[iaC];omega
  rw[e,A0s r i j (by simpa using h) hj];simp
def RowA(w:World)(base:Nat)(v:Value)(xs:List Ins):Prop:=w.ownsRow base 89 5 v xs.length (M0 xs)
theorem RowA.nil(w:World)(base:Nat):RowA w base (.slice none 0 0) []:=World.ownsRow_nil w base _ 5
theorem RowA.below{w w':World}{base:Nat}{v:Value}{xs:List Ins}(h:RowA w base v xs)(hb:Below w.heap.size w w'):RowA w' base v xs:=by
 obtain⟨h0,⟨e,h1⟩|⟨g,cap,cur,e,hb',hg,h1,h2,h3,h4⟩⟩:=h
 ·exact⟨h0,Or.inl ⟨e,h1⟩⟩
 ·have hlt:g<w.heap.size:=by
   rcases Nat.lt_or_ge g w.heap.size with h|h
   ·exact h
   ·rw[Array.getElem?_eq_none h]at hg;cases hg
  exact⟨h0,Or.inr ⟨g,cap,cur,e,hb',by rw[hb.block g hlt];exact hg,h1,h2,h3,h4⟩⟩
theorem RowA.ias{w:World}{base:Nat}{v:Value}{xs:List Ins}(h:RowA w base v xs)(hl:xs.length≤100000):Ias w v xs:=by
 obtain⟨h0,⟨e,h1⟩|⟨g,cap,cur,e,hb',hg,h1,h2,h3,h4⟩⟩:=h
 ·exact⟨none,0,by rw[e,h1],by omega,⟨by omega,by omega⟩,fun _=>rfl,fun i hi=>absurd hi (by omega)⟩
 ·have hlt:g<w.heap.size:=by
   rcases Nat.lt_or_ge g w.heap.size with h|h
   ·exact h
   ·rw[Array.getElem?_eq_none h]at hg;cases hg
  refine⟨some ⟨g,0,none⟩,cap,e,h1,⟨by omega,by unfold maxLen at h2;omega⟩,(fun hh=>by cases hh),fun i hi=>⟨g,0,rfl,hlt,?_⟩⟩;rw[Nat.zero_add];have cell:∀j,j<5→w.cell? ⟨g,i*5+j,none⟩=(iaC (xs.getD i default))[j]? :=by
   intro j hj;have e1:w.cell? ⟨g,i*5+j,none⟩=cur.toList[i*5+j]? :=by simp[World.cell?,hg]
   have e2:(cur.toList.take (xs.length*5))[i*5+j]? =cur.toList[i*5+j]? :=by rw[List.getElem?_take,if_pos (by omega)]
   rw[e1,←e2,h4];exact A0s xs i j hi hj
  exact⟨cell 0 (by omega),cell 1 (by omega),cell 2 (by omega),cell 3 (by omega),cell 4 (by omega)⟩
theorem RowA.shape{w:World}{base:Nat}{v:Value}{xs:List Ins}(h:RowA w base v xs):∃a c,v= .slice a xs.length c:=by
 obtain⟨h0,⟨e,h1⟩|⟨g,cap,cur,e,_⟩⟩:=h
 ·exact⟨none,0,by rw[e,h1]⟩
 ·exact⟨_,_,e⟩
theorem A2w{xs:List Ins}{j:Nat}(h:j<xs.length):xs.take (j+1)=xs.take j++[xs.getD j default]:=by
 rw[List.take_add_one,List.getElem?_eq_getElem h,List.getD_eq_getElem?_getD,List.getElem?_eq_getElem h];rfl
theorem A4H{xs:List Ins}(h:J4 xs)(j:Nat):J4 (xs.take j):=fun x hx=>h x (List.mem_of_mem_take hx)
theorem A0t{xs:List Ins}{j:Nat}(h:j<xs.length):xs.getD j default∈xs:=by
 rw[List.getD_eq_getElem?_getD,List.getElem?_eq_getElem h];exact List.getElem_mem h
theorem A3k(xs:List Ins)(v:Value)(w:World)(hv:Ias w v xs)(hyes:J4 xs)(hlen:xs.length≤10000):Calls prog 27 #[v] w fun e w'=>∃u,e= .returned (.tuple #[u,.int .i64 0])∧RowI w' w.heap.size 5 .u8 u (E8 xs)∧Below w.heap.size w w':=by
 have HV:=hid hv;have HY:=hid hyes;obtain⟨va,vc,rfl,hl1,hl2⟩:=hv.shape;clear hv hyes;go_enter func27,ntmps27;go_wp2_with fail
 go_loopw[12] (fun i wr=>∃j:Nat,j≤xs.length∧i= .int .i64 j∧Since w wr) (fun i _=>xs.length-(intOf i).toNat)
 case atStart=>exact⟨0,Nat.zero_le _,rfl,Since.refl _⟩
 case round=>
  obtain⟨j,hj,rfl,hs⟩:=hrel;by_cases hlt:j<xs.length
  ·obtain⟨b,q,c,e',hc,hb,x0,x1,x2,x3,x4⟩:=(HV.out.stays hs).at hlt;cases e';have hok:=HY.out _ (A0t hlt);have CV:=hid (fun wk=>u5 (xs.getD j default) wk);rw[show vaI (xs.getD j default)=0 by unfold vaI;rw[hok];rfl]at CV;have HS:=hid hs;clear hok hs;generalize xs.getD j default=x at*
   obtain⟨o,d,s,z,i⟩:=x;have CV2:Hid (∀wk,Calls prog 64 #[.agg #[.int .i64 o,.int .i64 d,.int .i64 s,.int .i64 z,.int .i64 i]] wk fun e w'=>e= .returned (.int .i64 0)∧Below wk.heap.size wk w'):=CV;clear CV;have hlt':(j:Int)<xs.length:=Int.ofNat_lt.2 hlt;go_wp2_with((with_reducible refine(CV2.out _).mono ?_);rintro e w1 ⟨rfl,hb1⟩)
   go_roundw
   case rel=>exact⟨j+1,by omega,by go_num,A8 HS.out (A8 ((Below.refl _ _).alloc (Nat.le_refl _) _) hb1)⟩
   case measure=>simp[intOf];omega
  ·obtain rfl:j=xs.length:=by omega
   obtain⟨wo,rfl⟩:∃wo:World,wo=wr:=⟨_,rfl⟩
   have HS:=hid hs;clear hs;go_wp2_with fail
   go_loopw[4,24] (fun u i wr=>∃j:Nat,j≤xs.length∧i= .int .i64 j∧RowI wr w.heap.size 5 .u8 u (E8 (xs.take j))∧Since w wr) (fun _ i _=>xs.length-(intOf i).toNat)
   case atStart=>exact⟨0,Nat.zero_le _,rfl,RowI.nil _ _ _ _,HS.out⟩
   case round=>
    obtain⟨j,hj,rfl,hrow,hs⟩:=hrel;by_cases hlt:j<xs.length
    ·obtain⟨b,q,c,e',hc,hb,x0,x1,x2,x3,x4⟩:=(HV.out.stays hs).at hlt;cases e';have hok:=HY.out _ (A0t hlt);have CB:=hid (fun wk=>A3l (xs.getD j default) wk hok);have HEQ:Hid (E8 (xs.take j)++V3 (xs.getD j default)=E8 (xs.take (j+1))):=by show _=_;rw[A2w hlt,A3n]
     have hen:=A0C hok;have hbl:=A1Q (A4H HY.out j);have htl:(xs.take j).length≤10000:=by rw[List.length_take];omega
     have HLEN:Hid ((E8 (xs.take j)).length+(V3 (xs.getD j default)).length≤100000):=hid (by omega);have HPOS:Hid (0<(V3 (xs.getD j default)).length):=hid hen.1;have HY5:Hid ((V3 (xs.getD j default)).length≤140737488351232):=hid (by omega);obtain⟨ua,uc,rfl⟩:=hrow.shape;have HROW:=hid hrow;have HSZ:Hid (w.heap.size≤wr.heap.size):=hid hs.size;have HS:=hid hs;clear hok hen hbl htl hrow hs;generalize xs.getD j default=x at*
     generalize E8 (xs.take j)=bs at*
     obtain⟨o,d,s,z,i⟩:=x;have CB2:Hid (∀wk,Calls prog 65 #[.agg #[.int .i64 o,.int .i64 d,.int .i64 s,.int .i64 z,.int .i64 i]] wk fun e w'=>∃v,e= .returned v∧RowI w' wk.heap.size 5 .u8 v (V3 ⟨o,d,s,z,i⟩)∧Below wk.heap.size wk w'):=CB;clear CB;generalize V3 ⟨o,d,s,z,i⟩=en at*
     have hlt':(j:Int)<xs.length:=Int.ofNat_lt.2 hlt;go_wp2_with(first|((with_reducible refine(CB2.out _).mono ?_);rintro e w1 ⟨v1,rfl,hr1,hb1⟩;obtain⟨a1,c1,rfl⟩:=hr1.shape;have HR1:=hid hr1;have HB1:=hid (A8 ((Below.refl wr.heap.size wr).alloc (Nat.le_refl _) _) hb1);clear hr1 hb1)|(at_builtin;refine m7 rfl _ _ rfl w.heap.size _ bs rfl (HROW.out.below HB1.out) _ en rfl (HR1.out.ints HY5.out) HPOS.out HLEN.out (Nat.le_trans HSZ.out HB1.out.size) ?_;intro v9 w9 hr9 hb9;have HR9:=hid hr9;have HB9:=hid hb9;clear hr9 hb9))
     go_roundw
     case rel=>exact⟨j+1,by omega,by go_num,RowI.to HR9.out HEQ.out,D6 (A8 HS.out HB1.out) HB9.out⟩
     case measure=>simp[intOf];omega
    ·obtain rfl:j=xs.length:=by omega
     have HROW:Hid (RowI wr w.heap.size 5 .u8 _ (E8 xs)):=hid (by rw[List.take_length]at hrow;exact hrow);have HS:=hid hs;clear hrow hs;go_wp2_with fail
     go_ret2
     exact⟨_,rfl,HROW.out,HS.out⟩
end Go.Proofs.YtajljbmeaeeknaaGreat
