/- -/
import Derived.Test.YtajljbmeaeeknaaGreatS7
open Go.Proofs.Tryz
namespace Go.Proofs.YtajljbmeaeeknaaGreat
open Go.RowKit
set_option linter.unusedVariables false
set_option linter.unusedSimpArgs false
theorem D9{w:World}{g:Nat}{cs:Array Value}{t:TypeId}{k:IntKind}{xs:List Int}(h:blk w g cs t)(hc:cs.toList=xs.map (Value.int k))(hl:xs.length≤1000):Ints k w (.slice (some ⟨g,0,none⟩) xs.length xs.length) xs:=by
 refine⟨some ⟨g,0,none⟩,xs.length,rfl,Nat.le_refl _,⟨by omega,by omega⟩,(fun h=>by cases h),fun i hi=>⟨g,0,rfl,D1 h,?_⟩⟩;show w.cell? ⟨g,0+i*1,none⟩=some (.int k (xs.getD i 0))
 rw[Nat.mul_one,Nat.zero_add,D5 h,←Array.getElem?_toList,hc,List.getElem?_map,List.getD_eq_getElem?_getD,List.getElem?_eq_getElem hi];rfl
def Knd(base:Nat)(w:World)(k:Value)(o:Int):Prop:=
 ∃(FF WW:FuncId) (cF cW:Array Value) (g:Nat) (T:Nat→Prop),k= .agg #[.func (.func FF) #[] cF,.slice (some ⟨g,0,none⟩) (szI o).length (szI o).length,.func (.func WW) #[] cW]∧
  (∀(args:Array Value) (w:World),(callFunc FF args).run prog w= .ok (.enter FF args) w)∧(∀(args:Array Value) (w:World),(callFunc WW args).run prog w= .ok (.enter WW args) w)∧
  (∀b,T b→base≤b∧b<w.heap.size)∧∀wk:World,w.heap.size≤wk.heap.size→(∀b,T b→wk.heap[b]? =w.heap[b]?)→
   Ints .i64 wk (.slice (some ⟨g,0,none⟩) (szI o).length (szI o).length) (szI o)∧
   (∀x:Ins,x.o=o→x.z∈szI o→Calls prog FF (#[o9 x]++cF) wk fun e w'=>e= .returned (.bool (J9 x))∧Below wk.heap.size wk w')∧
   (∀x:Ins,x.o=o→okI x=true→Calls prog WW (#[o9 x]++cW) wk fun e w'=>∃v,e= .returned v∧RowI w' wk.heap.size 5 .u8 v (G8 x)∧Below wk.heap.size wk w')
theorem Knd.keep{base:Nat}{w w':World}{k:Value}{o:Int}(h:Knd base w k o)(hs:w.heap.size≤w'.heap.size)(hk:∀b,base≤b→b<w.heap.size→w'.heap[b]? =w.heap[b]?):Knd base w' k o:=by
 obtain⟨F,W,cF,cW,g,T,h1,h2,h3,h4,h5⟩:=h;refine⟨F,W,cF,cW,g,T,h1,h2,h3,fun b hb=>⟨(h4 b hb).1,by have:=(h4 b hb).2;omega⟩,fun wk hz hT=>h5 wk (by omega) fun b hb=>?_⟩;rw[hT b hb,hk b (h4 b hb).1 (h4 b hb).2]
theorem Knd.mono{base base':Nat}{w:World}{k:Value}{o:Int}(h:Knd base w k o)(hb:base'≤base):Knd base' w k o:=by
 obtain⟨F,W,cF,cW,g,T,h1,h2,h3,h4,h5⟩:=h;exact⟨F,W,cF,cW,g,T,h1,h2,h3,fun b hb'=>⟨by have:=(h4 b hb').1;omega,(h4 b hb').2⟩,h5⟩
theorem Knd.below{base:Nat}{w w':World}{k:Value}{o:Int}(h:Knd base w k o)(hb:Below w.heap.size w w'):Knd base w' k o:=h.keep hb.size fun b _ hl=>hb.block b hl
theorem A9a(base:Nat)(w:World)(g b:Nat)(hg:blk w g #[.int .i64 32,.int .i64 16] 3)(hb:blk w b #[.int .u8 137] 5)(lg:base≤g)(lb:base≤b):Knd base w (.agg #[.func (.func 226) #[] #[],.slice (some ⟨g,0,none⟩) 2 2,.func (.func 227) #[] #[.pointer (some ⟨b,0,none⟩)]]) 0:=by
 refine⟨226,227,#[],#[.pointer (some ⟨b,0,none⟩)],g,fun x=>x=g∨x=b,rfl,fun _ _=>by kernel_rfl,fun _ _=>by kernel_rfl,?_,?_⟩
 ·rintro x (rfl|rfl)
  ·exact⟨lg,D1 hg⟩
  ·exact⟨lb,D1 hb⟩
 ·intro wk hs hT;have kg:=hT g (.inl rfl);have bg:blk wk g #[.int .i64 32,.int .i64 16] 3:=by unfold blk at hg⊢;rw[kg];exact hg
  have kb:=hT b (.inr (rfl));have bb:blk wk b #[.int .u8 137] 5:=by unfold blk at hb⊢;rw[kb];exact hb
  refine⟨D9 (xs:=[32,16]) bg rfl (by decide),fun x hx hz=>?_,fun x hx hok=>?_⟩
  ·obtain⟨o,d,s,z,i⟩:=x;simp only at hx;subst hx;exact A1E 0 d s z i wk
  ·have hf:=G5 hok;have hz:=H8 hok;clear hok;obtain⟨o,d,s,z,i⟩:=x;simp only at hx;subst hx;exact A2c 0 d s z i 137 b wk (D5 bb 0)
theorem A9Z(base:Nat)(w:World)(g:Nat)(hg:blk w g #[.int .i64 32,.int .i64 16] 3)(lg:base≤g):Knd base w (.agg #[.func (.func 172) #[] #[],.slice (some ⟨g,0,none⟩) 2 2,.func (.func 175) #[] #[]]) 1:=by
 refine⟨172,175,#[],#[],g,fun x=>x=g,rfl,fun _ _=>by kernel_rfl,fun _ _=>by kernel_rfl,?_,?_⟩
 ·rintro x rfl;exact⟨lg,D1 hg⟩
 ·intro wk hs hT;have kg:=hT g (rfl);have bg:blk wk g #[.int .i64 32,.int .i64 16] 3:=by unfold blk at hg⊢;rw[kg];exact hg
  refine⟨D9 (xs:=[32,16]) bg rfl (by decide),fun x hx hz=>?_,fun x hx hok=>?_⟩
  ·obtain⟨o,d,s,z,i⟩:=x;simp only at hx;subst hx;simp[szI]at hz;rcases hz with rfl|rfl
   ·exact A1F 1 d s i wk
   ·exact A1G 1 d s i wk
  ·have hf:=G5 hok;have hz:=H8 hok;clear hok;obtain⟨o,d,s,z,i⟩:=x;simp only at hx;subst hx;simp[szI]at hz;simp[J9,isR,inZ]at hf;have p32:pwZ 32=4294967296:=rfl;have p16:pwZ 16=65536:=rfl;rcases hz with rfl|rfl
   ·exact A1Y 1 d s i wk ⟨by omega,by omega⟩
   ·exact A1Z 1 d s i wk ⟨by omega,by omega⟩
theorem A9Y(base:Nat)(w:World)(g b go:Nat)(hg:blk w g #[.int .i64 32,.int .i64 16] 3)(hb:blk w b #[.slice (some ⟨go,0,none⟩) 1 1] 28)(hgo:blk w go #[.int .u8 139] 5)(lg:base≤g)(lb:base≤b)(lgo:base≤go):Knd base w (.agg #[.func (.func 228) #[] #[],.slice (some ⟨g,0,none⟩) 2 2,.func (.func 231) #[] #[.pointer (some ⟨b,0,none⟩)]]) 2:=by
 refine⟨228,231,#[],#[.pointer (some ⟨b,0,none⟩)],g,fun x=>x=g∨x=b∨x=go,rfl,fun _ _=>by kernel_rfl,fun _ _=>by kernel_rfl,?_,?_⟩
 ·rintro x (rfl|rfl|rfl)
  ·exact⟨lg,D1 hg⟩
  ·exact⟨lb,D1 hb⟩
  ·exact⟨lgo,D1 hgo⟩
 ·intro wk hs hT;have kg:=hT g (.inl rfl);have bg:blk wk g #[.int .i64 32,.int .i64 16] 3:=by unfold blk at hg⊢;rw[kg];exact hg
  have kb:=hT b (.inr (.inl rfl));have bb:blk wk b #[.slice (some ⟨go,0,none⟩) 1 1] 28:=by unfold blk at hb⊢;rw[kb];exact hb
  have kgo:=hT go (.inr (.inr (rfl)));have bgo:blk wk go #[.int .u8 139] 5:=by unfold blk at hgo⊢;rw[kgo];exact hgo
  refine⟨D9 (xs:=[32,16]) bg rfl (by decide),fun x hx hz=>?_,fun x hx hok=>?_⟩
  ·obtain⟨o,d,s,z,i⟩:=x;simp only at hx;subst hx;exact j9 2 d s z i wk
  ·have hf:=G5 hok;have hz:=H8 hok;clear hok;obtain⟨o,d,s,z,i⟩:=x;simp only at hx;subst hx;simp[J9,M5,isR,isM,isL,isC,isB,I8]at hf;exact s7 2 d s z i _ [139] b wk (D5 bb 0) (D9 (xs:=[139]) bgo rfl (by decide)) (by decide) (by decide) ⟨by omega,by omega⟩
theorem A9X(base:Nat)(w:World)(g b b2:Nat)(hg:blk w g #[.int .i64 32,.int .i64 16] 3)(hb:blk w b #[.int .u8 137] 5)(hb2:blk w b2 #[.func (.func 173) #[] #[]] 106)(lg:base≤g)(lb:base≤b)(lb2:base≤b2):Knd base w (.agg #[.func (.func 233) #[] #[.pointer (some ⟨b2,0,none⟩)],.slice (some ⟨g,0,none⟩) 2 2,.func (.func 234) #[] #[.pointer (some ⟨b,0,none⟩)]]) 3:=by
 refine⟨233,234,#[.pointer (some ⟨b2,0,none⟩)],#[.pointer (some ⟨b,0,none⟩)],g,fun x=>x=g∨x=b∨x=b2,rfl,fun _ _=>by kernel_rfl,fun _ _=>by kernel_rfl,?_,?_⟩
 ·rintro x (rfl|rfl|rfl)
  ·exact⟨lg,D1 hg⟩
  ·exact⟨lb,D1 hb⟩
  ·exact⟨lb2,D1 hb2⟩
 ·intro wk hs hT;have kg:=hT g (.inl rfl);have bg:blk wk g #[.int .i64 32,.int .i64 16] 3:=by unfold blk at hg⊢;rw[kg];exact hg
  have kb:=hT b (.inr (.inl rfl));have bb:blk wk b #[.int .u8 137] 5:=by unfold blk at hb⊢;rw[kb];exact hb
  have kb2:=hT b2 (.inr (.inr (rfl)));have bb2:blk wk b2 #[.func (.func 173) #[] #[]] 106:=by unfold blk at hb2⊢;rw[kb2];exact hb2
  refine⟨D9 (xs:=[32,16]) bg rfl (by decide),fun x hx hz=>?_,fun x hx hok=>?_⟩
  ·obtain⟨o,d,s,z,i⟩:=x;simp only at hx;subst hx;exact A2D 3 d s z i b2 wk (D5 bb2 0)
  ·have hf:=G5 hok;have hz:=H8 hok;clear hok;obtain⟨o,d,s,z,i⟩:=x;simp only at hx;subst hx;simp[J9,M5,isR,isM,isL,isC,isB,I8]at hf;exact A0N 3 d s z i 137 b wk (D5 bb 0) ⟨by omega,by omega⟩
theorem A9W(base:Nat)(w:World)(g b go:Nat)(hg:blk w g #[.int .i64 32] 3)(hb:blk w b #[.slice (some ⟨go,0,none⟩) 2 2] 28)(hgo:blk w go #[.int .u8 15,.int .u8 182] 5)(lg:base≤g)(lb:base≤b)(lgo:base≤go):Knd base w (.agg #[.func (.func 228) #[] #[],.slice (some ⟨g,0,none⟩) 1 1,.func (.func 231) #[] #[.pointer (some ⟨b,0,none⟩)]]) 4:=by
 refine⟨228,231,#[],#[.pointer (some ⟨b,0,none⟩)],g,fun x=>x=g∨x=b∨x=go,rfl,fun _ _=>by kernel_rfl,fun _ _=>by kernel_rfl,?_,?_⟩
 ·rintro x (rfl|rfl|rfl)
  ·exact⟨lg,D1 hg⟩
  ·exact⟨lb,D1 hb⟩
  ·exact⟨lgo,D1 hgo⟩
 ·intro wk hs hT;have kg:=hT g (.inl rfl);have bg:blk wk g #[.int .i64 32] 3:=by unfold blk at hg⊢;rw[kg];exact hg
  have kb:=hT b (.inr (.inl rfl));have bb:blk wk b #[.slice (some ⟨go,0,none⟩) 2 2] 28:=by unfold blk at hb⊢;rw[kb];exact hb
  have kgo:=hT go (.inr (.inr (rfl)));have bgo:blk wk go #[.int .u8 15,.int .u8 182] 5:=by unfold blk at hgo⊢;rw[kgo];exact hgo
  refine⟨D9 (xs:=[32]) bg rfl (by decide),fun x hx hz=>?_,fun x hx hok=>?_⟩
  ·obtain⟨o,d,s,z,i⟩:=x;simp only at hx;subst hx;exact j9 4 d s z i wk
  ·have hf:=G5 hok;have hz:=H8 hok;clear hok;obtain⟨o,d,s,z,i⟩:=x;simp only at hx;subst hx;simp[J9,M5,isR,isM,isL,isC,isB,I8]at hf;exact s7 4 d s z i _ [15,182] b wk (D5 bb 0) (D9 (xs:=[15,182]) bgo rfl (by decide)) (by decide) (by decide) ⟨by omega,by omega⟩
theorem A9V(base:Nat)(w:World)(g b go:Nat)(hg:blk w g #[.int .i64 32] 3)(hb:blk w b #[.slice (some ⟨go,0,none⟩) 2 2] 28)(hgo:blk w go #[.int .u8 15,.int .u8 183] 5)(lg:base≤g)(lb:base≤b)(lgo:base≤go):Knd base w (.agg #[.func (.func 228) #[] #[],.slice (some ⟨g,0,none⟩) 1 1,.func (.func 231) #[] #[.pointer (some ⟨b,0,none⟩)]]) 5:=by
 refine⟨228,231,#[],#[.pointer (some ⟨b,0,none⟩)],g,fun x=>x=g∨x=b∨x=go,rfl,fun _ _=>by kernel_rfl,fun _ _=>by kernel_rfl,?_,?_⟩
 ·rintro x (rfl|rfl|rfl)
  ·exact⟨lg,D1 hg⟩
  ·exact⟨lb,D1 hb⟩
  ·exact⟨lgo,D1 hgo⟩
 ·intro wk hs hT;have kg:=hT g (.inl rfl);have bg:blk wk g #[.int .i64 32] 3:=by unfold blk at hg⊢;rw[kg];exact hg
  have kb:=hT b (.inr (.inl rfl));have bb:blk wk b #[.slice (some ⟨go,0,none⟩) 2 2] 28:=by unfold blk at hb⊢;rw[kb];exact hb
  have kgo:=hT go (.inr (.inr (rfl)));have bgo:blk wk go #[.int .u8 15,.int .u8 183] 5:=by unfold blk at hgo⊢;rw[kgo];exact hgo
  refine⟨D9 (xs:=[32]) bg rfl (by decide),fun x hx hz=>?_,fun x hx hok=>?_⟩
  ·obtain⟨o,d,s,z,i⟩:=x;simp only at hx;subst hx;exact j9 5 d s z i wk
  ·have hf:=G5 hok;have hz:=H8 hok;clear hok;obtain⟨o,d,s,z,i⟩:=x;simp only at hx;subst hx;simp[J9,M5,isR,isM,isL,isC,isB,I8]at hf;exact s7 5 d s z i _ [15,183] b wk (D5 bb 0) (D9 (xs:=[15,183]) bgo rfl (by decide)) (by decide) (by decide) ⟨by omega,by omega⟩
theorem A9U(base:Nat)(w:World)(g b b2:Nat)(hg:blk w g #[.int .i64 32] 3)(hb:blk w b #[.int .u8 136] 5)(hb2:blk w b2 #[.func (.func 179) #[] #[]] 106)(lg:base≤g)(lb:base≤b)(lb2:base≤b2):Knd base w (.agg #[.func (.func 233) #[] #[.pointer (some ⟨b2,0,none⟩)],.slice (some ⟨g,0,none⟩) 1 1,.func (.func 234) #[] #[.pointer (some ⟨b,0,none⟩)]]) 6:=by
 refine⟨233,234,#[.pointer (some ⟨b2,0,none⟩)],#[.pointer (some ⟨b,0,none⟩)],g,fun x=>x=g∨x=b∨x=b2,rfl,fun _ _=>by kernel_rfl,fun _ _=>by kernel_rfl,?_,?_⟩
 ·rintro x (rfl|rfl|rfl)
  ·exact⟨lg,D1 hg⟩
  ·exact⟨lb,D1 hb⟩
  ·exact⟨lb2,D1 hb2⟩
 ·intro wk hs hT;have kg:=hT g (.inl rfl);have bg:blk wk g #[.int .i64 32] 3:=by unfold blk at hg⊢;rw[kg];exact hg
  have kb:=hT b (.inr (.inl rfl));have bb:blk wk b #[.int .u8 136] 5:=by unfold blk at hb⊢;rw[kb];exact hb
  have kb2:=hT b2 (.inr (.inr (rfl)));have bb2:blk wk b2 #[.func (.func 179) #[] #[]] 106:=by unfold blk at hb2⊢;rw[kb2];exact hb2
  refine⟨D9 (xs:=[32]) bg rfl (by decide),fun x hx hz=>?_,fun x hx hok=>?_⟩
  ·obtain⟨o,d,s,z,i⟩:=x;simp only at hx;subst hx;exact A2E 6 d s z i b2 wk (D5 bb2 0)
  ·have hf:=G5 hok;have hz:=H8 hok;clear hok;obtain⟨o,d,s,z,i⟩:=x;simp only at hx;subst hx;simp[J9,M5,isR,isM,isL,isC,isB,I8]at hf;exact A0N 6 d s z i 136 b wk (D5 bb 0) ⟨by omega,by omega⟩
theorem A4w(o D:Int)(ho:(o=7∧D=1)∨(o=8∧D=9)∨(o=9∧D=33)∨(o=10∧D=41)∨(o=11∧D=49)∨(o=12∧D=57)∨(o=13∧D=133))(base:Nat)(w:World)(g b:Nat)(hg:blk w g #[.int .i64 32,.int .i64 16] 3)(hb:blk w b #[.int .u8 D] 5)(lg:base≤g)(lb:base≤b):Knd base w (.agg #[.func (.func 226) #[] #[],.slice (some ⟨g,0,none⟩) 2 2,.func (.func 227) #[] #[.pointer (some ⟨b,0,none⟩)]]) o:=by
 rcases ho with⟨rfl,hD⟩|⟨rfl,hD⟩|⟨rfl,hD⟩|⟨rfl,hD⟩|⟨rfl,hD⟩|⟨rfl,hD⟩|⟨rfl,hD⟩
 all_goals
  refine⟨226,227,#[],#[.pointer (some ⟨b,0,none⟩)],g,fun x=>x=g∨x=b,rfl,fun _ _=>by kernel_rfl,fun _ _=>by kernel_rfl,?_,?_⟩
  ·rintro x (rfl|rfl)
   ·exact⟨lg,D1 hg⟩
   ·exact⟨lb,D1 hb⟩
  ·intro wk hs hT;have kg:=hT g (.inl rfl);have bg:blk wk g #[.int .i64 32,.int .i64 16] 3:=by unfold blk at hg⊢;rw[kg];exact hg
   have kb:=hT b (.inr (rfl));have bb:blk wk b #[.int .u8 D] 5:=by unfold blk at hb⊢;rw[kb];exact hb
   refine⟨D9 (xs:=[32,16]) bg rfl (by decide),fun x hx hz=>?_,fun x hx hok=>?_⟩
   ·obtain⟨o,d,s,z,i⟩:=x;simp only at hx;subst hx;exact A1E _ d s z i wk
   ·have hf:=G5 hok;have hz:=H8 hok;clear hok;obtain⟨o,d,s,z,i⟩:=x;simp only at hx;subst hx;subst hD;exact A2c _ d s z i _ b wk (D5 bb 0)
theorem A6M(o D:Int)(ho:(o=14∧D=0)∨(o=15∧D=1)∨(o=16∧D=4)∨(o=17∧D=5)∨(o=18∧D=6)∨(o=19∧D=7))(base:Nat)(w:World)(g b:Nat)(hg:blk w g #[.int .i64 32,.int .i64 16] 3)(hb:blk w b #[.int .i64 D] 3)(lg:base≤g)(lb:base≤b):Knd base w (.agg #[.func (.func 235) #[] #[],.slice (some ⟨g,0,none⟩) 2 2,.func (.func 236) #[] #[.pointer (some ⟨b,0,none⟩)]]) o:=by
 rcases ho with⟨rfl,hD⟩|⟨rfl,hD⟩|⟨rfl,hD⟩|⟨rfl,hD⟩|⟨rfl,hD⟩|⟨rfl,hD⟩
 all_goals
  refine⟨235,236,#[],#[.pointer (some ⟨b,0,none⟩)],g,fun x=>x=g∨x=b,rfl,fun _ _=>by kernel_rfl,fun _ _=>by kernel_rfl,?_,?_⟩
  ·rintro x (rfl|rfl)
   ·exact⟨lg,D1 hg⟩
   ·exact⟨lb,D1 hb⟩
  ·intro wk hs hT;have kg:=hT g (.inl rfl);have bg:blk wk g #[.int .i64 32,.int .i64 16] 3:=by unfold blk at hg⊢;rw[kg];exact hg
   have kb:=hT b (.inr (rfl));have bb:blk wk b #[.int .i64 D] 3:=by unfold blk at hb⊢;rw[kb];exact hb
   refine⟨D9 (xs:=[32,16]) bg rfl (by decide),fun x hx hz=>?_,fun x hx hok=>?_⟩
   ·obtain⟨o,d,s,z,i⟩:=x;simp only at hx;subst hx;simp[szI]at hz;rcases hz with rfl|rfl
    ·exact A2F _ d s i wk
    ·exact A2G _ d s i wk
   ·have hf:=G5 hok;have hz:=H8 hok;clear hok;obtain⟨o,d,s,z,i⟩:=x;simp only at hx;subst hx;simp[szI]at hz;simp[J9,isR,inZ]at hf;have p32:pwZ 32=4294967296:=rfl;have p16:pwZ 16=65536:=rfl;rcases hz with rfl|rfl
    ·by_cases hs: -128≤sgB i 32∧sgB i 32≤127
     ·rw[show G8 _=[131,mrB D d,i%256]by simp[G8,hs,A1M,hD]];exact A0O _ d s i D b wk (D5 bb 0) (by omega) (by omega) hs
     ·rw[show G8 _=129::mrB D d::leB i 4 by simp[G8,hs,A1M,hD]];exact A0P _ d s i D b wk (D5 bb 0) (by omega) (by omega) hs
    ·by_cases hs: -128≤sgB i 16∧sgB i 16≤127
     ·rw[show G8 _=[131,mrB D d,i%256]by simp[G8,hs,A1M,hD]];exact A0Q _ d s i D b wk (D5 bb 0) (by omega) (by omega) hs
     ·rw[show G8 _=129::mrB D d::leB i 2 by simp[G8,hs,A1M,hD]];exact A0R _ d s i D b wk (D5 bb 0) (by omega) (by omega) hs
theorem A7q(base:Nat)(w:World)(g:Nat)(hg:blk w g #[.int .i64 32] 3)(lg:base≤g):Knd base w (.agg #[.func (.func 181) #[] #[],.slice (some ⟨g,0,none⟩) 1 1,.func (.func 182) #[] #[]]) 20:=by
 refine⟨181,182,#[],#[],g,fun x=>x=g,rfl,fun _ _=>by kernel_rfl,fun _ _=>by kernel_rfl,?_,?_⟩
 ·rintro x rfl;exact⟨lg,D1 hg⟩
 ·intro wk hs hT;have kg:=hT g (rfl);have bg:blk wk g #[.int .i64 32] 3:=by unfold blk at hg⊢;rw[kg];exact hg
  refine⟨D9 (xs:=[32]) bg rfl (by decide),fun x hx hz=>?_,fun x hx hok=>?_⟩
  ·obtain⟨o,d,s,z,i⟩:=x;simp only at hx;subst hx;exact A6W 20 d s z i wk
  ·have hf:=G5 hok;have hz:=H8 hok;clear hok;obtain⟨o,d,s,z,i⟩:=x;simp only at hx;subst hx;simp[J9,M5,isR,isM,isL,isC,isB,I8]at hf;exact wr_mul 20 d s z i wk
theorem A7e(o D:Int)(ho:(o=21∧D=4)∨(o=22∧D=5)∨(o=23∧D=7))(base:Nat)(w:World)(g b b2:Nat)(hg:blk w g #[.int .i64 32,.int .i64 16] 3)(hb:blk w b #[.int .u8 211] 5)(hb2:blk w b2 #[.int .i64 D] 3)(lg:base≤g)(lb:base≤b)(lb2:base≤b2):Knd base w (.agg #[.func (.func 238) #[] #[],.slice (some ⟨g,0,none⟩) 2 2,.func (.func 239) #[] #[.pointer (some ⟨b,0,none⟩),.pointer (some ⟨b2,0,none⟩)]]) o:=by
 rcases ho with⟨rfl,hD⟩|⟨rfl,hD⟩|⟨rfl,hD⟩
 all_goals
  refine⟨238,239,#[],#[.pointer (some ⟨b,0,none⟩),.pointer (some ⟨b2,0,none⟩)],g,fun x=>x=g∨x=b∨x=b2,rfl,fun _ _=>by kernel_rfl,fun _ _=>by kernel_rfl,?_,?_⟩
  ·rintro x (rfl|rfl|rfl)
   ·exact⟨lg,D1 hg⟩
   ·exact⟨lb,D1 hb⟩
   ·exact⟨lb2,D1 hb2⟩
  ·intro wk hs hT;have kg:=hT g (.inl rfl);have bg:blk wk g #[.int .i64 32,.int .i64 16] 3:=by unfold blk at hg⊢;rw[kg];exact hg
   have kb:=hT b (.inr (.inl rfl));have bb:blk wk b #[.int .u8 211] 5:=by unfold blk at hb⊢;rw[kb];exact hb
   have kb2:=hT b2 (.inr (.inr (rfl)));have bb2:blk wk b2 #[.int .i64 D] 3:=by unfold blk at hb2⊢;rw[kb2];exact hb2
   refine⟨D9 (xs:=[32,16]) bg rfl (by decide),fun x hx hz=>?_,fun x hx hok=>?_⟩
   ·obtain⟨o,d,s,z,i⟩:=x;simp only at hx;subst hx;exact U5 _ d s z i wk
   ·have hf:=G5 hok;have hz:=H8 hok;clear hok;obtain⟨o,d,s,z,i⟩:=x;simp only at hx;subst hx;subst hD;exact V6 _ d s z i _ _ b b2 wk (D5 bb 0) (D5 bb2 0)
theorem A7f(o D:Int)(ho:(o=24∧D=2)∨(o=25∧D=3))(base:Nat)(w:World)(g b b2:Nat)(hg:blk w g #[.int .i64 32,.int .i64 16] 3)(hb:blk w b #[.int .u8 247] 5)(hb2:blk w b2 #[.int .i64 D] 3)(lg:base≤g)(lb:base≤b)(lb2:base≤b2):Knd base w (.agg #[.func (.func 238) #[] #[],.slice (some ⟨g,0,none⟩) 2 2,.func (.func 239) #[] #[.pointer (some ⟨b,0,none⟩),.pointer (some ⟨b2,0,none⟩)]]) o:=by
 rcases ho with⟨rfl,hD⟩|⟨rfl,hD⟩
 all_goals
  refine⟨238,239,#[],#[.pointer (some ⟨b,0,none⟩),.pointer (some ⟨b2,0,none⟩)],g,fun x=>x=g∨x=b∨x=b2,rfl,fun _ _=>by kernel_rfl,fun _ _=>by kernel_rfl,?_,?_⟩
  ·rintro x (rfl|rfl|rfl)
   ·exact⟨lg,D1 hg⟩
   ·exact⟨lb,D1 hb⟩
   ·exact⟨lb2,D1 hb2⟩
  ·intro wk hs hT;have kg:=hT g (.inl rfl);have bg:blk wk g #[.int .i64 32,.int .i64 16] 3:=by unfold blk at hg⊢;rw[kg];exact hg
   have kb:=hT b (.inr (.inl rfl));have bb:blk wk b #[.int .u8 247] 5:=by unfold blk at hb⊢;rw[kb];exact hb
   have kb2:=hT b2 (.inr (.inr (rfl)));have bb2:blk wk b2 #[.int .i64 D] 3:=by unfold blk at hb2⊢;rw[kb2];exact hb2
   refine⟨D9 (xs:=[32,16]) bg rfl (by decide),fun x hx hz=>?_,fun x hx hok=>?_⟩
   ·obtain⟨o,d,s,z,i⟩:=x;simp only at hx;subst hx;exact U5 _ d s z i wk
   ·have hf:=G5 hok;have hz:=H8 hok;clear hok;obtain⟨o,d,s,z,i⟩:=x;simp only at hx;subst hx;subst hD;exact V6 _ d s z i _ _ b b2 wk (D5 bb 0) (D5 bb2 0)
theorem A7g(o D:Int)(ho:(o=26∧D=6)∨(o=27∧D=7))(base:Nat)(w:World)(g b b2:Nat)(hg:blk w g #[.int .i64 32] 3)(hb:blk w b #[.int .u8 247] 5)(hb2:blk w b2 #[.int .i64 D] 3)(lg:base≤g)(lb:base≤b)(lb2:base≤b2):Knd base w (.agg #[.func (.func 238) #[] #[],.slice (some ⟨g,0,none⟩) 1 1,.func (.func 239) #[] #[.pointer (some ⟨b,0,none⟩),.pointer (some ⟨b2,0,none⟩)]]) o:=by
 rcases ho with⟨rfl,hD⟩|⟨rfl,hD⟩
 all_goals
  refine⟨238,239,#[],#[.pointer (some ⟨b,0,none⟩),.pointer (some ⟨b2,0,none⟩)],g,fun x=>x=g∨x=b∨x=b2,rfl,fun _ _=>by kernel_rfl,fun _ _=>by kernel_rfl,?_,?_⟩
  ·rintro x (rfl|rfl|rfl)
   ·exact⟨lg,D1 hg⟩
   ·exact⟨lb,D1 hb⟩
   ·exact⟨lb2,D1 hb2⟩
  ·intro wk hs hT;have kg:=hT g (.inl rfl);have bg:blk wk g #[.int .i64 32] 3:=by unfold blk at hg⊢;rw[kg];exact hg
   have kb:=hT b (.inr (.inl rfl));have bb:blk wk b #[.int .u8 247] 5:=by unfold blk at hb⊢;rw[kb];exact hb
   have kb2:=hT b2 (.inr (.inr (rfl)));have bb2:blk wk b2 #[.int .i64 D] 3:=by unfold blk at hb2⊢;rw[kb2];exact hb2
   refine⟨D9 (xs:=[32]) bg rfl (by decide),fun x hx hz=>?_,fun x hx hok=>?_⟩
   ·obtain⟨o,d,s,z,i⟩:=x;simp only at hx;subst hx;exact U5 _ d s z i wk
   ·have hf:=G5 hok;have hz:=H8 hok;clear hok;obtain⟨o,d,s,z,i⟩:=x;simp only at hx;subst hx;subst hD;exact V6 _ d s z i _ _ b b2 wk (D5 bb 0) (D5 bb2 0)
theorem A7p(base:Nat)(w:World)(g b go:Nat)(hg:blk w g #[.int .i64 32] 3)(hb:blk w b #[.slice (some ⟨go,0,none⟩) 1 1] 28)(hgo:blk w go #[.int .u8 153] 5)(lg:base≤g)(lb:base≤b)(lgo:base≤go):Knd base w (.agg #[.func (.func 240) #[] #[],.slice (some ⟨g,0,none⟩) 1 1,.func (.func 241) #[] #[.pointer (some ⟨b,0,none⟩)]]) 28:=by
 refine⟨240,241,#[],#[.pointer (some ⟨b,0,none⟩)],g,fun x=>x=g∨x=b∨x=go,rfl,fun _ _=>by kernel_rfl,fun _ _=>by kernel_rfl,?_,?_⟩
 ·rintro x (rfl|rfl|rfl)
  ·exact⟨lg,D1 hg⟩
  ·exact⟨lb,D1 hb⟩
  ·exact⟨lgo,D1 hgo⟩
 ·intro wk hs hT;have kg:=hT g (.inl rfl);have bg:blk wk g #[.int .i64 32] 3:=by unfold blk at hg⊢;rw[kg];exact hg
  have kb:=hT b (.inr (.inl rfl));have bb:blk wk b #[.slice (some ⟨go,0,none⟩) 1 1] 28:=by unfold blk at hb⊢;rw[kb];exact hb
  have kgo:=hT go (.inr (.inr (rfl)));have bgo:blk wk go #[.int .u8 153] 5:=by unfold blk at hgo⊢;rw[kgo];exact hgo
  refine⟨D9 (xs:=[32]) bg rfl (by decide),fun x hx hz=>?_,fun x hx hok=>?_⟩
  ·obtain⟨o,d,s,z,i⟩:=x;simp only at hx;subst hx;exact V2 28 d s z i wk
  ·have hf:=G5 hok;have hz:=H8 hok;clear hok;obtain⟨o,d,s,z,i⟩:=x;simp only at hx;subst hx;exact c9 28 d s z i _ [153] b wk (D5 bb 0) (D9 (xs:=[153]) bgo rfl (by decide)) (by decide) (by decide)
theorem A7o(base:Nat)(w:World)(g:Nat)(hg:blk w g #[.int .i64 32] 3)(lg:base≤g):Knd base w (.agg #[.func (.func 186) #[] #[],.slice (some ⟨g,0,none⟩) 1 1,.func (.func 188) #[] #[]]) 29:=by
 refine⟨186,188,#[],#[],g,fun x=>x=g,rfl,fun _ _=>by kernel_rfl,fun _ _=>by kernel_rfl,?_,?_⟩
 ·rintro x rfl;exact⟨lg,D1 hg⟩
 ·intro wk hs hT;have kg:=hT g (rfl);have bg:blk wk g #[.int .i64 32] 3:=by unfold blk at hg⊢;rw[kg];exact hg
  refine⟨D9 (xs:=[32]) bg rfl (by decide),fun x hx hz=>?_,fun x hx hok=>?_⟩
  ·obtain⟨o,d,s,z,i⟩:=x;simp only at hx;subst hx;exact A6V 29 d s z i wk
  ·have hf:=G5 hok;have hz:=H8 hok;clear hok;obtain⟨o,d,s,z,i⟩:=x;simp only at hx;subst hx;simp[J9,M5,isR,isM,isL,isC,isB,I8]at hf;exact A6z 29 d s z i wk (by omega) (by omega)
theorem A7n(base:Nat)(w:World)(g:Nat)(hg:blk w g #[.int .i64 32] 3)(lg:base≤g):Knd base w (.agg #[.func (.func 189) #[] #[],.slice (some ⟨g,0,none⟩) 1 1,.func (.func 190) #[] #[]]) 30:=by
 refine⟨189,190,#[],#[],g,fun x=>x=g,rfl,fun _ _=>by kernel_rfl,fun _ _=>by kernel_rfl,?_,?_⟩
 ·rintro x rfl;exact⟨lg,D1 hg⟩
 ·intro wk hs hT;have kg:=hT g (rfl);have bg:blk wk g #[.int .i64 32] 3:=by unfold blk at hg⊢;rw[kg];exact hg
  refine⟨D9 (xs:=[32]) bg rfl (by decide),fun x hx hz=>?_,fun x hx hok=>?_⟩
  ·obtain⟨o,d,s,z,i⟩:=x;simp only at hx;subst hx;exact A5K 30 d s z i wk
  ·have hf:=G5 hok;have hz:=H8 hok;clear hok;obtain⟨o,d,s,z,i⟩:=x;simp only at hx;subst hx;simp[J9,M5,isR,isM,isL,isC,isB,I8]at hf;exact A5Z 30 d s z i wk
theorem A7m(base:Nat)(w:World)(g:Nat)(hg:blk w g #[.int .i64 32] 3)(lg:base≤g):Knd base w (.agg #[.func (.func 191) #[] #[],.slice (some ⟨g,0,none⟩) 1 1,.func (.func 192) #[] #[]]) 31:=by
 refine⟨191,192,#[],#[],g,fun x=>x=g,rfl,fun _ _=>by kernel_rfl,fun _ _=>by kernel_rfl,?_,?_⟩
 ·rintro x rfl;exact⟨lg,D1 hg⟩
 ·intro wk hs hT;have kg:=hT g (rfl);have bg:blk wk g #[.int .i64 32] 3:=by unfold blk at hg⊢;rw[kg];exact hg
  refine⟨D9 (xs:=[32]) bg rfl (by decide),fun x hx hz=>?_,fun x hx hok=>?_⟩
  ·obtain⟨o,d,s,z,i⟩:=x;simp only at hx;subst hx;exact A5L 31 d s z i wk
  ·have hf:=G5 hok;have hz:=H8 hok;clear hok;obtain⟨o,d,s,z,i⟩:=x;simp only at hx;subst hx;simp[J9,M5,isR,isM,isL,isC,isB,I8]at hf;exact A5e 31 d s z i wk (by omega) (by omega)
theorem A7l(base:Nat)(w:World)(g b1 b2 b3:Nat)(hg:blk w g #[.int .i64 8,.int .i64 32] 3)(hb1:blk w b1 #[.func (.func 194) #[] #[]] 139)(hb2:blk w b2 #[.func (.func 195) #[] #[]] 139)(hb3:blk w b3 #[.func (.func 196) #[] #[]] 176)(lg:base≤g)(lb1:base≤b1)(lb2:base≤b2)(lb3:base≤b3):Knd base w (.agg #[.func (.func 242) #[] #[.pointer (some ⟨b3,0,none⟩)],.slice (some ⟨g,0,none⟩) 2 2,.func (.func 243) #[] #[.pointer (some ⟨b1,0,none⟩),.pointer (some ⟨b2,0,none⟩)]]) 32:=by
 refine⟨242,243,#[.pointer (some ⟨b3,0,none⟩)],#[.pointer (some ⟨b1,0,none⟩),.pointer (some ⟨b2,0,none⟩)],g,fun x=>x=g∨x=b1∨x=b2∨x=b3,rfl,fun _ _=>by kernel_rfl,fun _ _=>by kernel_rfl,?_,?_⟩
 ·rintro x (rfl|rfl|rfl|rfl)
  ·exact⟨lg,D1 hg⟩
  ·exact⟨lb1,D1 hb1⟩
  ·exact⟨lb2,D1 hb2⟩
  ·exact⟨lb3,D1 hb3⟩
 ·intro wk hs hT;have kg:=hT g (.inl rfl);have bg:blk wk g #[.int .i64 8,.int .i64 32] 3:=by unfold blk at hg⊢;rw[kg];exact hg
  have kb1:=hT b1 (.inr (.inl rfl));have bb1:blk wk b1 #[.func (.func 194) #[] #[]] 139:=by unfold blk at hb1⊢;rw[kb1];exact hb1
  have kb2:=hT b2 (.inr (.inr (.inl rfl)));have bb2:blk wk b2 #[.func (.func 195) #[] #[]] 139:=by unfold blk at hb2⊢;rw[kb2];exact hb2
  have kb3:=hT b3 (.inr (.inr (.inr (rfl))));have bb3:blk wk b3 #[.func (.func 196) #[] #[]] 176:=by unfold blk at hb3⊢;rw[kb3];exact hb3
  refine⟨D9 (xs:=[8,32]) bg rfl (by decide),fun x hx hz=>?_,fun x hx hok=>?_⟩
  ·obtain⟨o,d,s,z,i⟩:=x;simp only at hx;subst hx;simp[szI]at hz;rcases hz with rfl|rfl
   ·have h:=A1I 32 d s i b3 wk (D5 bb3 0);rw[show((d==0)&&((isC s)&&isB i))=J9 ⟨32,d,s,8,i⟩by simp[J9,M5]]at h;exact h
   ·have h:=A0A 32 d s i b3 wk (D5 bb3 0);rw[show((d==0)&&((isC s)&&I8 i))=J9 ⟨32,d,s,32,i⟩by simp[J9,M5]]at h;exact h
  ·have hf:=G5 hok;have hz:=H8 hok;clear hok;obtain⟨o,d,s,z,i⟩:=x;simp only at hx;subst hx;simp[szI]at hz;simp[J9,M5,isR,isM,isL,isC,isB,I8]at hf;rcases hz with rfl|rfl
   ·exact A1b 32 d s i b1 b2 wk (D5 bb1 0) (D5 bb2 0) (by omega) (by omega)
   ·exact A0T 32 d s i b1 b2 wk (D5 bb1 0) (D5 bb2 0) (by omega) (by omega) ⟨by omega,by omega⟩
theorem A7k(base:Nat)(w:World)(g b1 b2 b3:Nat)(hg:blk w g #[.int .i64 8,.int .i64 32] 3)(hb1:blk w b1 #[.func (.func 197) #[] #[]] 139)(hb2:blk w b2 #[.func (.func 198) #[] #[]] 139)(hb3:blk w b3 #[.func (.func 199) #[] #[]] 176)(lg:base≤g)(lb1:base≤b1)(lb2:base≤b2)(lb3:base≤b3):Knd base w (.agg #[.func (.func 242) #[] #[.pointer (some ⟨b3,0,none⟩)],.slice (some ⟨g,0,none⟩) 2 2,.func (.func 243) #[] #[.pointer (some ⟨b1,0,none⟩),.pointer (some ⟨b2,0,none⟩)]]) 33:=by
 refine⟨242,243,#[.pointer (some ⟨b3,0,none⟩)],#[.pointer (some ⟨b1,0,none⟩),.pointer (some ⟨b2,0,none⟩)],g,fun x=>x=g∨x=b1∨x=b2∨x=b3,rfl,fun _ _=>by kernel_rfl,fun _ _=>by kernel_rfl,?_,?_⟩
 ·rintro x (rfl|rfl|rfl|rfl)
  ·exact⟨lg,D1 hg⟩
  ·exact⟨lb1,D1 hb1⟩
  ·exact⟨lb2,D1 hb2⟩
  ·exact⟨lb3,D1 hb3⟩
 ·intro wk hs hT;have kg:=hT g (.inl rfl);have bg:blk wk g #[.int .i64 8,.int .i64 32] 3:=by unfold blk at hg⊢;rw[kg];exact hg
  have kb1:=hT b1 (.inr (.inl rfl));have bb1:blk wk b1 #[.func (.func 197) #[] #[]] 139:=by unfold blk at hb1⊢;rw[kb1];exact hb1
  have kb2:=hT b2 (.inr (.inr (.inl rfl)));have bb2:blk wk b2 #[.func (.func 198) #[] #[]] 139:=by unfold blk at hb2⊢;rw[kb2];exact hb2
  have kb3:=hT b3 (.inr (.inr (.inr (rfl))));have bb3:blk wk b3 #[.func (.func 199) #[] #[]] 176:=by unfold blk at hb3⊢;rw[kb3];exact hb3
  refine⟨D9 (xs:=[8,32]) bg rfl (by decide),fun x hx hz=>?_,fun x hx hok=>?_⟩
  ·obtain⟨o,d,s,z,i⟩:=x;simp only at hx;subst hx;simp[szI]at hz;rcases hz with rfl|rfl
   ·have h:=A1H 33 d s i b3 wk (D5 bb3 0);rw[show((d==0)&&((s==0)&&isB i))=J9 ⟨33,d,s,8,i⟩by simp[J9,M5]]at h;exact h
   ·have h:=z9 33 d s i b3 wk (D5 bb3 0);rw[show((d==0)&&((s==0)&&I8 i))=J9 ⟨33,d,s,32,i⟩by simp[J9,M5]]at h;exact h
  ·have hf:=G5 hok;have hz:=H8 hok;clear hok;obtain⟨o,d,s,z,i⟩:=x;simp only at hx;subst hx;simp[szI]at hz;simp[J9,M5,isR,isM,isL,isC,isB,I8]at hf;rcases hz with rfl|rfl
   ·exact A1a 33 d s i b1 b2 wk (D5 bb1 0) (D5 bb2 0)
   ·exact A0S 33 d s i b1 b2 wk (D5 bb1 0) (D5 bb2 0) ⟨by omega,by omega⟩
theorem A7j(base:Nat)(w:World)(g b go:Nat)(hg:blk w g #[.int .i64 32] 3)(hb:blk w b #[.slice (some ⟨go,0,none⟩) 1 1] 28)(hgo:blk w go #[.int .u8 244] 5)(lg:base≤g)(lb:base≤b)(lgo:base≤go):Knd base w (.agg #[.func (.func 240) #[] #[],.slice (some ⟨g,0,none⟩) 1 1,.func (.func 241) #[] #[.pointer (some ⟨b,0,none⟩)]]) 34:=by
 refine⟨240,241,#[],#[.pointer (some ⟨b,0,none⟩)],g,fun x=>x=g∨x=b∨x=go,rfl,fun _ _=>by kernel_rfl,fun _ _=>by kernel_rfl,?_,?_⟩
 ·rintro x (rfl|rfl|rfl)
  ·exact⟨lg,D1 hg⟩
  ·exact⟨lb,D1 hb⟩
  ·exact⟨lgo,D1 hgo⟩
 ·intro wk hs hT;have kg:=hT g (.inl rfl);have bg:blk wk g #[.int .i64 32] 3:=by unfold blk at hg⊢;rw[kg];exact hg
  have kb:=hT b (.inr (.inl rfl));have bb:blk wk b #[.slice (some ⟨go,0,none⟩) 1 1] 28:=by unfold blk at hb⊢;rw[kb];exact hb
  have kgo:=hT go (.inr (.inr (rfl)));have bgo:blk wk go #[.int .u8 244] 5:=by unfold blk at hgo⊢;rw[kgo];exact hgo
  refine⟨D9 (xs:=[32]) bg rfl (by decide),fun x hx hz=>?_,fun x hx hok=>?_⟩
  ·obtain⟨o,d,s,z,i⟩:=x;simp only at hx;subst hx;exact V2 34 d s z i wk
  ·have hf:=G5 hok;have hz:=H8 hok;clear hok;obtain⟨o,d,s,z,i⟩:=x;simp only at hx;subst hx;exact c9 34 d s z i _ [244] b wk (D5 bb 0) (D9 (xs:=[244]) bgo rfl (by decide)) (by decide) (by decide)
theorem A7i(base:Nat)(w:World)(g b go:Nat)(hg:blk w g #[.int .i64 32] 3)(hb:blk w b #[.slice (some ⟨go,0,none⟩) 2 2] 28)(hgo:blk w go #[.int .u8 15,.int .u8 11] 5)(lg:base≤g)(lb:base≤b)(lgo:base≤go):Knd base w (.agg #[.func (.func 240) #[] #[],.slice (some ⟨g,0,none⟩) 1 1,.func (.func 241) #[] #[.pointer (some ⟨b,0,none⟩)]]) 35:=by
 refine⟨240,241,#[],#[.pointer (some ⟨b,0,none⟩)],g,fun x=>x=g∨x=b∨x=go,rfl,fun _ _=>by kernel_rfl,fun _ _=>by kernel_rfl,?_,?_⟩
 ·rintro x (rfl|rfl|rfl)
  ·exact⟨lg,D1 hg⟩
  ·exact⟨lb,D1 hb⟩
  ·exact⟨lgo,D1 hgo⟩
 ·intro wk hs hT;have kg:=hT g (.inl rfl);have bg:blk wk g #[.int .i64 32] 3:=by unfold blk at hg⊢;rw[kg];exact hg
  have kb:=hT b (.inr (.inl rfl));have bb:blk wk b #[.slice (some ⟨go,0,none⟩) 2 2] 28:=by unfold blk at hb⊢;rw[kb];exact hb
  have kgo:=hT go (.inr (.inr (rfl)));have bgo:blk wk go #[.int .u8 15,.int .u8 11] 5:=by unfold blk at hgo⊢;rw[kgo];exact hgo
  refine⟨D9 (xs:=[32]) bg rfl (by decide),fun x hx hz=>?_,fun x hx hok=>?_⟩
  ·obtain⟨o,d,s,z,i⟩:=x;simp only at hx;subst hx;exact V2 35 d s z i wk
  ·have hf:=G5 hok;have hz:=H8 hok;clear hok;obtain⟨o,d,s,z,i⟩:=x;simp only at hx;subst hx;exact c9 35 d s z i _ [15,11] b wk (D5 bb 0) (D9 (xs:=[15,11]) bgo rfl (by decide)) (by decide) (by decide)
theorem A7h(base:Nat)(w:World)(g b go:Nat)(hg:blk w g #[.int .i64 32] 3)(hb:blk w b #[.slice (some ⟨go,0,none⟩) 1 1] 28)(hgo:blk w go #[.int .u8 144] 5)(lg:base≤g)(lb:base≤b)(lgo:base≤go):Knd base w (.agg #[.func (.func 240) #[] #[],.slice (some ⟨g,0,none⟩) 1 1,.func (.func 241) #[] #[.pointer (some ⟨b,0,none⟩)]]) 36:=by
 refine⟨240,241,#[],#[.pointer (some ⟨b,0,none⟩)],g,fun x=>x=g∨x=b∨x=go,rfl,fun _ _=>by kernel_rfl,fun _ _=>by kernel_rfl,?_,?_⟩
 ·rintro x (rfl|rfl|rfl)
  ·exact⟨lg,D1 hg⟩
  ·exact⟨lb,D1 hb⟩
  ·exact⟨lgo,D1 hgo⟩
 ·intro wk hs hT;have kg:=hT g (.inl rfl);have bg:blk wk g #[.int .i64 32] 3:=by unfold blk at hg⊢;rw[kg];exact hg
  have kb:=hT b (.inr (.inl rfl));have bb:blk wk b #[.slice (some ⟨go,0,none⟩) 1 1] 28:=by unfold blk at hb⊢;rw[kb];exact hb
  have kgo:=hT go (.inr (.inr (rfl)));have bgo:blk wk go #[.int .u8 144] 5:=by unfold blk at hgo⊢;rw[kgo];exact hgo
  refine⟨D9 (xs:=[32]) bg rfl (by decide),fun x hx hz=>?_,fun x hx hok=>?_⟩
  ·obtain⟨o,d,s,z,i⟩:=x;simp only at hx;subst hx;exact V2 36 d s z i wk
  ·have hf:=G5 hok;have hz:=H8 hok;clear hok;obtain⟨o,d,s,z,i⟩:=x;simp only at hx;subst hx;exact c9 36 d s z i _ [144] b wk (D5 bb 0) (D9 (xs:=[144]) bgo rfl (by decide)) (by decide) (by decide)
end Go.Proofs.YtajljbmeaeeknaaGreat
