/- -/
import Derived.Test.YtajljbmeaeeknaaGreatA12
import Derived.Test.YtajljbmeaeeknaaGreatA13
open Go.Proofs.Tryz
namespace Go.Proofs.YtajljbmeaeeknaaGreat
set_option linter.unusedVariables false
set_option linter.unusedSimpArgs false
theorem A9e{x:Ins}(h:okI x=true)(r:List Int):Z0 (K4 x++r)=(if x.z=16 then 1 else 0)∧Y7 (K4 x++r)=(if x.z=16 then 16 else 32)∧
  (K4 x++r).drop (if x.z=16 then 1 else 0)=B5 x++r∧(K4 x).length=(if x.z=16 then 1 else 0)+(B5 x).length:=by
 obtain⟨_,_,h3,_⟩:=A3P h r;unfold K4 Z0 Y7;by_cases c:x.z=16
 ·rw[if_pos c,if_pos c,if_pos c];refine⟨rfl,rfl,rfl,?_⟩;simp;omega
 ·rw[if_neg c,if_neg c,if_neg c];exact⟨if_neg h3,if_neg h3,rfl,by simp⟩
theorem A5I{x:Ins}(h:okI x=true):∀b∈K4 x,0≤b∧b<256:=by
 obtain⟨_,_,_,h4⟩:=A3P h [];intro b hb;unfold K4 at hb
 split at hb
 ·rcases List.mem_cons.1 hb with rfl|hb
  ·omega
  ·exact h4 b hb
 ·exact h4 b hb
theorem A7a{x:Ins}(h:okI x=true)(r:List Int):S8 (K4 x++r)=some (x,(K4 x).length):=by
 obtain⟨p1,p2,p3,p4⟩:=A9e h r;obtain⟨h1,h2,h3,_⟩:=A3P h r;unfold S8;rw[p1,p2,p3,h1];simp only;rw[←p4,if_pos];refine⟨⟨?_,h⟩,?_⟩
 ·simp
 ·simp
theorem A4D{b:List Int}{x:Ins}{n:Nat}(h:S8 b=some (x,n)):okI x=true∧n≤b.length∧K4 x=b.take n∧(K4 x).length=n:=by
 unfold S8 at h
 split at h
 ·rename_i c
  obtain⟨⟨c1,c2⟩,c3⟩:=c;cases h;refine⟨c2,c1,c3,?_⟩;rw[c3,List.length_take];omega
 ·cases h
end Go.Proofs.YtajljbmeaeeknaaGreat
namespace Go.Proofs.YtajljbmeaeeknaaGreat
open Go.RowKit
set_option linter.unusedVariables false
set_option linter.unusedSimpArgs false
theorem E6{w:World}{g:Nat}{cs:Array Value}{t:TypeId}{k:IntKind}{xs:List Int}(h:blk w g cs t)(hc:cs.toList=xs.map (Value.int k))(hl:xs.length≤1000):Ints k w (.slice (some ⟨g,0,none⟩) xs.length xs.length) xs:=by
 refine⟨some ⟨g,0,none⟩,xs.length,rfl,Nat.le_refl _,⟨by omega,by omega⟩,(fun h=>by cases h),fun i hi=>⟨g,0,rfl,D5 h,?_⟩⟩;show w.cell? ⟨g,0+i*1,none⟩=some (.int k (xs.getD i 0))
 rw[Nat.mul_one,Nat.zero_add,D6 h,←Array.getElem?_toList,hc,List.getElem?_map,List.getD_eq_getElem?_getD,List.getElem?_eq_getElem hi];rfl
def Knd(base:Nat)(w:World)(k:Value)(o:Int):Prop:=
 ∃(FF WW:FuncId) (cF cW:Array Value) (g:Nat) (T:Nat→Prop),k= .agg #[.func (.func FF) #[] cF,.slice (some ⟨g,0,none⟩) (szI o).length (szI o).length,.func (.func WW) #[] cW]∧
  (∀(args:Array Value) (w:World),(callFunc FF args).run prog w= .ok (.enter FF args) w)∧(∀(args:Array Value) (w:World),(callFunc WW args).run prog w= .ok (.enter WW args) w)∧
  (∀b,T b→base≤b∧b<w.heap.size)∧∀wk:World,w.heap.size≤wk.heap.size→(∀b,T b→wk.heap[b]? =w.heap[b]?)→
   Ints .i64 wk (.slice (some ⟨g,0,none⟩) (szI o).length (szI o).length) (szI o)∧
   (∀x:Ins,x.o=o→x.z∈szI o→Calls prog FF (#[L9 x]++cF) wk fun e w'=>e= .returned (.bool (G7 x))∧Below wk.heap.size wk w')∧
   (∀x:Ins,x.o=o→okI x=true→Calls prog WW (#[L9 x]++cW) wk fun e w'=>∃v,e= .returned v∧RowI w' wk.heap.size 5 .u8 v (B5 x)∧Below wk.heap.size wk w')
theorem Knd.keep{base:Nat}{w w':World}{k:Value}{o:Int}(h:Knd base w k o)(hs:w.heap.size≤w'.heap.size)(hk:∀b,base≤b→b<w.heap.size→w'.heap[b]? =w.heap[b]?):Knd base w' k o:=by
 obtain⟨F,W,cF,cW,g,T,h1,h2,h3,h4,h5⟩:=h;refine⟨F,W,cF,cW,g,T,h1,h2,h3,fun b hb=>⟨(h4 b hb).1,by have:=(h4 b hb).2;omega⟩,fun wk hz hT=>h5 wk (by omega) fun b hb=>?_⟩;rw[hT b hb,hk b (h4 b hb).1 (h4 b hb).2]
theorem Knd.mono{base base':Nat}{w:World}{k:Value}{o:Int}(h:Knd base w k o)(hb:base'≤base):Knd base' w k o:=by
 obtain⟨F,W,cF,cW,g,T,h1,h2,h3,h4,h5⟩:=h;exact⟨F,W,cF,cW,g,T,h1,h2,h3,fun b hb'=>⟨by have:=(h4 b hb').1;omega,(h4 b hb').2⟩,h5⟩
theorem Knd.below{base:Nat}{w w':World}{k:Value}{o:Int}(h:Knd base w k o)(hb:Below w.heap.size w w'):Knd base w' k o:=h.keep hb.size fun b _ hl=>hb.block b hl
theorem B4j(base:Nat)(w:World)(g b:Nat)(hg:blk w g #[.int .i64 32,.int .i64 16] 3)(hb:blk w b #[.int .u8 137] 5)(lg:base≤g)(lb:base≤b):Knd base w (.agg #[.func (.func 226) #[] #[],.slice (some ⟨g,0,none⟩) 2 2,.func (.func 227) #[] #[.pointer (some ⟨b,0,none⟩)]]) 0:=by
 refine⟨226,227,#[],#[.pointer (some ⟨b,0,none⟩)],g,fun x=>x=g∨x=b,rfl,fun _ _=>by kernel_rfl,fun _ _=>by kernel_rfl,?_,?_⟩
 ·rintro x (rfl|rfl)
  ·exact⟨lg,D5 hg⟩
  ·exact⟨lb,D5 hb⟩
 ·intro wk hs hT;have kg:=hT g (.inl rfl);have bg:blk wk g #[.int .i64 32,.int .i64 16] 3:=by unfold blk at hg⊢;rw[kg];exact hg
  have kb:=hT b (.inr (rfl));have bb:blk wk b #[.int .u8 137] 5:=by unfold blk at hb⊢;rw[kb];exact hb
  refine⟨E6 (xs:=[32,16]) bg rfl (by decide),fun x hx hz=>?_,fun x hx hok=>?_⟩
  ·obtain⟨o,d,s,z,i⟩:=x;simp only at hx;subst hx;exact A2S 0 d s z i wk
  ·have hf:=D4 hok;have hz:=F6 hok;clear hok;obtain⟨o,d,s,z,i⟩:=x;simp only at hx;subst hx;exact A3q 0 d s z i 137 b wk (D6 bb 0)
theorem B4i(base:Nat)(w:World)(g:Nat)(hg:blk w g #[.int .i64 32,.int .i64 16] 3)(lg:base≤g):Knd base w (.agg #[.func (.func 172) #[] #[],.slice (some ⟨g,0,none⟩) 2 2,.func (.func 175) #[] #[]]) 1:=by
 refine⟨172,175,#[],#[],g,fun x=>x=g,rfl,fun _ _=>by kernel_rfl,fun _ _=>by kernel_rfl,?_,?_⟩
 ·rintro x rfl;exact⟨lg,D5 hg⟩
 ·intro wk hs hT;have kg:=hT g (rfl);have bg:blk wk g #[.int .i64 32,.int .i64 16] 3:=by unfold blk at hg⊢;rw[kg];exact hg
  refine⟨E6 (xs:=[32,16]) bg rfl (by decide),fun x hx hz=>?_,fun x hx hok=>?_⟩
  ·obtain⟨o,d,s,z,i⟩:=x;simp only at hx;subst hx;simp[szI]at hz;rcases hz with rfl|rfl
   ·exact A2T 1 d s i wk
   ·exact A2U 1 d s i wk
  ·have hf:=D4 hok;have hz:=F6 hok;clear hok;obtain⟨o,d,s,z,i⟩:=x;simp only at hx;subst hx;simp[szI]at hz;simp[G7,isR,inZ]at hf;have p32:pwZ 32=4294967296:=rfl;have p16:pwZ 16=65536:=rfl;rcases hz with rfl|rfl
   ·exact A2s 1 d s i wk ⟨by omega,by omega⟩
   ·exact A2t 1 d s i wk ⟨by omega,by omega⟩
theorem B4h(base:Nat)(w:World)(g b go:Nat)(hg:blk w g #[.int .i64 32,.int .i64 16] 3)(hb:blk w b #[.slice (some ⟨go,0,none⟩) 1 1] 28)(hgo:blk w go #[.int .u8 139] 5)(lg:base≤g)(lb:base≤b)(lgo:base≤go):Knd base w (.agg #[.func (.func 228) #[] #[],.slice (some ⟨g,0,none⟩) 2 2,.func (.func 231) #[] #[.pointer (some ⟨b,0,none⟩)]]) 2:=by
 refine⟨228,231,#[],#[.pointer (some ⟨b,0,none⟩)],g,fun x=>x=g∨x=b∨x=go,rfl,fun _ _=>by kernel_rfl,fun _ _=>by kernel_rfl,?_,?_⟩
 ·rintro x (rfl|rfl|rfl)
  ·exact⟨lg,D5 hg⟩
  ·exact⟨lb,D5 hb⟩
  ·exact⟨lgo,D5 hgo⟩
 ·intro wk hs hT;have kg:=hT g (.inl rfl);have bg:blk wk g #[.int .i64 32,.int .i64 16] 3:=by unfold blk at hg⊢;rw[kg];exact hg
  have kb:=hT b (.inr (.inl rfl));have bb:blk wk b #[.slice (some ⟨go,0,none⟩) 1 1] 28:=by unfold blk at hb⊢;rw[kb];exact hb
  have kgo:=hT go (.inr (.inr (rfl)));have bgo:blk wk go #[.int .u8 139] 5:=by unfold blk at hgo⊢;rw[kgo];exact hgo
  refine⟨E6 (xs:=[32,16]) bg rfl (by decide),fun x hx hz=>?_,fun x hx hok=>?_⟩
  ·obtain⟨o,d,s,z,i⟩:=x;simp only at hx;subst hx;exact A0F 2 d s z i wk
  ·have hf:=D4 hok;have hz:=F6 hok;clear hok;obtain⟨o,d,s,z,i⟩:=x;simp only at hx;subst hx;simp[G7,J0,isR,isM,isL,isC,isB,I5]at hf;exact A0h 2 d s z i _ [139] b wk (D6 bb 0) (E6 (xs:=[139]) bgo rfl (by decide)) (by decide) (by decide) ⟨by omega,by omega⟩
theorem B4g(base:Nat)(w:World)(g b b2:Nat)(hg:blk w g #[.int .i64 32,.int .i64 16] 3)(hb:blk w b #[.int .u8 137] 5)(hb2:blk w b2 #[.func (.func 173) #[] #[]] 106)(lg:base≤g)(lb:base≤b)(lb2:base≤b2):Knd base w (.agg #[.func (.func 233) #[] #[.pointer (some ⟨b2,0,none⟩)],.slice (some ⟨g,0,none⟩) 2 2,.func (.func 234) #[] #[.pointer (some ⟨b,0,none⟩)]]) 3:=by
 refine⟨233,234,#[.pointer (some ⟨b2,0,none⟩)],#[.pointer (some ⟨b,0,none⟩)],g,fun x=>x=g∨x=b∨x=b2,rfl,fun _ _=>by kernel_rfl,fun _ _=>by kernel_rfl,?_,?_⟩
 ·rintro x (rfl|rfl|rfl)
  ·exact⟨lg,D5 hg⟩
  ·exact⟨lb,D5 hb⟩
  ·exact⟨lb2,D5 hb2⟩
 ·intro wk hs hT;have kg:=hT g (.inl rfl);have bg:blk wk g #[.int .i64 32,.int .i64 16] 3:=by unfold blk at hg⊢;rw[kg];exact hg
  have kb:=hT b (.inr (.inl rfl));have bb:blk wk b #[.int .u8 137] 5:=by unfold blk at hb⊢;rw[kb];exact hb
  have kb2:=hT b2 (.inr (.inr (rfl)));have bb2:blk wk b2 #[.func (.func 173) #[] #[]] 106:=by unfold blk at hb2⊢;rw[kb2];exact hb2
  refine⟨E6 (xs:=[32,16]) bg rfl (by decide),fun x hx hz=>?_,fun x hx hok=>?_⟩
  ·obtain⟨o,d,s,z,i⟩:=x;simp only at hx;subst hx;exact A3R 3 d s z i b2 wk (D6 bb2 0)
  ·have hf:=D4 hok;have hz:=F6 hok;clear hok;obtain⟨o,d,s,z,i⟩:=x;simp only at hx;subst hx;simp[G7,J0,isR,isM,isL,isC,isB,I5]at hf;exact A1V 3 d s z i 137 b wk (D6 bb 0) ⟨by omega,by omega⟩
theorem B4f(base:Nat)(w:World)(g b go:Nat)(hg:blk w g #[.int .i64 32] 3)(hb:blk w b #[.slice (some ⟨go,0,none⟩) 2 2] 28)(hgo:blk w go #[.int .u8 15,.int .u8 182] 5)(lg:base≤g)(lb:base≤b)(lgo:base≤go):Knd base w (.agg #[.func (.func 228) #[] #[],.slice (some ⟨g,0,none⟩) 1 1,.func (.func 231) #[] #[.pointer (some ⟨b,0,none⟩)]]) 4:=by
 refine⟨228,231,#[],#[.pointer (some ⟨b,0,none⟩)],g,fun x=>x=g∨x=b∨x=go,rfl,fun _ _=>by kernel_rfl,fun _ _=>by kernel_rfl,?_,?_⟩
 ·rintro x (rfl|rfl|rfl)
  ·exact⟨lg,D5 hg⟩
  ·exact⟨lb,D5 hb⟩
  ·exact⟨lgo,D5 hgo⟩
 ·intro wk hs hT;have kg:=hT g (.inl rfl);have bg:blk wk g #[.int .i64 32] 3:=by unfold blk at hg⊢;rw[kg];exact hg
  have kb:=hT b (.inr (.inl rfl));have bb:blk wk b #[.slice (some ⟨go,0,none⟩) 2 2] 28:=by unfold blk at hb⊢;rw[kb];exact hb
  have kgo:=hT go (.inr (.inr (rfl)));have bgo:blk wk go #[.int .u8 15,.int .u8 182] 5:=by unfold blk at hgo⊢;rw[kgo];exact hgo
  refine⟨E6 (xs:=[32]) bg rfl (by decide),fun x hx hz=>?_,fun x hx hok=>?_⟩
  ·obtain⟨o,d,s,z,i⟩:=x;simp only at hx;subst hx;exact A0F 4 d s z i wk
  ·have hf:=D4 hok;have hz:=F6 hok;clear hok;obtain⟨o,d,s,z,i⟩:=x;simp only at hx;subst hx;simp[G7,J0,isR,isM,isL,isC,isB,I5]at hf;exact A0h 4 d s z i _ [15,182] b wk (D6 bb 0) (E6 (xs:=[15,182]) bgo rfl (by decide)) (by decide) (by decide) ⟨by omega,by omega⟩
theorem B4e(base:Nat)(w:World)(g b go:Nat)(hg:blk w g #[.int .i64 32] 3)(hb:blk w b #[.slice (some ⟨go,0,none⟩) 2 2] 28)(hgo:blk w go #[.int .u8 15,.int .u8 183] 5)(lg:base≤g)(lb:base≤b)(lgo:base≤go):Knd base w (.agg #[.func (.func 228) #[] #[],.slice (some ⟨g,0,none⟩) 1 1,.func (.func 231) #[] #[.pointer (some ⟨b,0,none⟩)]]) 5:=by
 refine⟨228,231,#[],#[.pointer (some ⟨b,0,none⟩)],g,fun x=>x=g∨x=b∨x=go,rfl,fun _ _=>by kernel_rfl,fun _ _=>by kernel_rfl,?_,?_⟩
 ·rintro x (rfl|rfl|rfl)
  ·exact⟨lg,D5 hg⟩
  ·exact⟨lb,D5 hb⟩
  ·exact⟨lgo,D5 hgo⟩
 ·intro wk hs hT;have kg:=hT g (.inl rfl);have bg:blk wk g #[.int .i64 32] 3:=by unfold blk at hg⊢;rw[kg];exact hg
  have kb:=hT b (.inr (.inl rfl));have bb:blk wk b #[.slice (some ⟨go,0,none⟩) 2 2] 28:=by unfold blk at hb⊢;rw[kb];exact hb
  have kgo:=hT go (.inr (.inr (rfl)));have bgo:blk wk go #[.int .u8 15,.int .u8 183] 5:=by unfold blk at hgo⊢;rw[kgo];exact hgo
  refine⟨E6 (xs:=[32]) bg rfl (by decide),fun x hx hz=>?_,fun x hx hok=>?_⟩
  ·obtain⟨o,d,s,z,i⟩:=x;simp only at hx;subst hx;exact A0F 5 d s z i wk
  ·have hf:=D4 hok;have hz:=F6 hok;clear hok;obtain⟨o,d,s,z,i⟩:=x;simp only at hx;subst hx;simp[G7,J0,isR,isM,isL,isC,isB,I5]at hf;exact A0h 5 d s z i _ [15,183] b wk (D6 bb 0) (E6 (xs:=[15,183]) bgo rfl (by decide)) (by decide) (by decide) ⟨by omega,by omega⟩
theorem B4d(base:Nat)(w:World)(g b b2:Nat)(hg:blk w g #[.int .i64 32] 3)(hb:blk w b #[.int .u8 136] 5)(hb2:blk w b2 #[.func (.func 179) #[] #[]] 106)(lg:base≤g)(lb:base≤b)(lb2:base≤b2):Knd base w (.agg #[.func (.func 233) #[] #[.pointer (some ⟨b2,0,none⟩)],.slice (some ⟨g,0,none⟩) 1 1,.func (.func 234) #[] #[.pointer (some ⟨b,0,none⟩)]]) 6:=by
 refine⟨233,234,#[.pointer (some ⟨b2,0,none⟩)],#[.pointer (some ⟨b,0,none⟩)],g,fun x=>x=g∨x=b∨x=b2,rfl,fun _ _=>by kernel_rfl,fun _ _=>by kernel_rfl,?_,?_⟩
 ·rintro x (rfl|rfl|rfl)
  ·exact⟨lg,D5 hg⟩
  ·exact⟨lb,D5 hb⟩
  ·exact⟨lb2,D5 hb2⟩
 ·intro wk hs hT;have kg:=hT g (.inl rfl);have bg:blk wk g #[.int .i64 32] 3:=by unfold blk at hg⊢;rw[kg];exact hg
  have kb:=hT b (.inr (.inl rfl));have bb:blk wk b #[.int .u8 136] 5:=by unfold blk at hb⊢;rw[kb];exact hb
  have kb2:=hT b2 (.inr (.inr (rfl)));have bb2:blk wk b2 #[.func (.func 179) #[] #[]] 106:=by unfold blk at hb2⊢;rw[kb2];exact hb2
  refine⟨E6 (xs:=[32]) bg rfl (by decide),fun x hx hz=>?_,fun x hx hok=>?_⟩
  ·obtain⟨o,d,s,z,i⟩:=x;simp only at hx;subst hx;exact A3S 6 d s z i b2 wk (D6 bb2 0)
  ·have hf:=D4 hok;have hz:=F6 hok;clear hok;obtain⟨o,d,s,z,i⟩:=x;simp only at hx;subst hx;simp[G7,J0,isR,isM,isL,isC,isB,I5]at hf;exact A1V 6 d s z i 136 b wk (D6 bb 0) ⟨by omega,by omega⟩
theorem A6i(o D:Int)(ho:(o=7∧D=1)∨(o=8∧D=9)∨(o=9∧D=33)∨(o=10∧D=41)∨(o=11∧D=49)∨(o=12∧D=57)∨(o=13∧D=133))(base:Nat)(w:World)(g b:Nat)(hg:blk w g #[.int .i64 32,.int .i64 16] 3)(hb:blk w b #[.int .u8 D] 5)(lg:base≤g)(lb:base≤b):Knd base w (.agg #[.func (.func 226) #[] #[],.slice (some ⟨g,0,none⟩) 2 2,.func (.func 227) #[] #[.pointer (some ⟨b,0,none⟩)]]) o:=by
 rcases ho with⟨rfl,hD⟩|⟨rfl,hD⟩|⟨rfl,hD⟩|⟨rfl,hD⟩|⟨rfl,hD⟩|⟨rfl,hD⟩|⟨rfl,hD⟩
 all_goals
  refine⟨226,227,#[],#[.pointer (some ⟨b,0,none⟩)],g,fun x=>x=g∨x=b,rfl,fun _ _=>by kernel_rfl,fun _ _=>by kernel_rfl,?_,?_⟩
  ·rintro x (rfl|rfl)
   ·exact⟨lg,D5 hg⟩
   ·exact⟨lb,D5 hb⟩
  ·intro wk hs hT;have kg:=hT g (.inl rfl);have bg:blk wk g #[.int .i64 32,.int .i64 16] 3:=by unfold blk at hg⊢;rw[kg];exact hg
   have kb:=hT b (.inr (rfl));have bb:blk wk b #[.int .u8 D] 5:=by unfold blk at hb⊢;rw[kb];exact hb
   refine⟨E6 (xs:=[32,16]) bg rfl (by decide),fun x hx hz=>?_,fun x hx hok=>?_⟩
   ·obtain⟨o,d,s,z,i⟩:=x;simp only at hx;subst hx;exact A2S _ d s z i wk
   ·have hf:=D4 hok;have hz:=F6 hok;clear hok;obtain⟨o,d,s,z,i⟩:=x;simp only at hx;subst hx;subst hD;exact A3q _ d s z i _ b wk (D6 bb 0)
theorem A8m(o D:Int)(ho:(o=14∧D=0)∨(o=15∧D=1)∨(o=16∧D=4)∨(o=17∧D=5)∨(o=18∧D=6)∨(o=19∧D=7))(base:Nat)(w:World)(g b:Nat)(hg:blk w g #[.int .i64 32,.int .i64 16] 3)(hb:blk w b #[.int .i64 D] 3)(lg:base≤g)(lb:base≤b):Knd base w (.agg #[.func (.func 235) #[] #[],.slice (some ⟨g,0,none⟩) 2 2,.func (.func 236) #[] #[.pointer (some ⟨b,0,none⟩)]]) o:=by
 rcases ho with⟨rfl,hD⟩|⟨rfl,hD⟩|⟨rfl,hD⟩|⟨rfl,hD⟩|⟨rfl,hD⟩|⟨rfl,hD⟩
 all_goals
  refine⟨235,236,#[],#[.pointer (some ⟨b,0,none⟩)],g,fun x=>x=g∨x=b,rfl,fun _ _=>by kernel_rfl,fun _ _=>by kernel_rfl,?_,?_⟩
  ·rintro x (rfl|rfl)
   ·exact⟨lg,D5 hg⟩
   ·exact⟨lb,D5 hb⟩
  ·intro wk hs hT;have kg:=hT g (.inl rfl);have bg:blk wk g #[.int .i64 32,.int .i64 16] 3:=by unfold blk at hg⊢;rw[kg];exact hg
   have kb:=hT b (.inr (rfl));have bb:blk wk b #[.int .i64 D] 3:=by unfold blk at hb⊢;rw[kb];exact hb
   refine⟨E6 (xs:=[32,16]) bg rfl (by decide),fun x hx hz=>?_,fun x hx hok=>?_⟩
   ·obtain⟨o,d,s,z,i⟩:=x;simp only at hx;subst hx;simp[szI]at hz;rcases hz with rfl|rfl
    ·exact A3T _ d s i wk
    ·exact A3U _ d s i wk
   ·have hf:=D4 hok;have hz:=F6 hok;clear hok;obtain⟨o,d,s,z,i⟩:=x;simp only at hx;subst hx;simp[szI]at hz;simp[G7,isR,inZ]at hf;have p32:pwZ 32=4294967296:=rfl;have p16:pwZ 16=65536:=rfl;rcases hz with rfl|rfl
    ·by_cases hs: -128≤sgB i 32∧sgB i 32≤127
     ·rw[show B5 _=[131,mrB D d,i%256]by simp[B5,hs,A0T,hD]];exact A1W _ d s i D b wk (D6 bb 0) (by omega) (by omega) hs
     ·rw[show B5 _=129::mrB D d::leB i 4 by simp[B5,hs,A0T,hD]];exact A1X _ d s i D b wk (D6 bb 0) (by omega) (by omega) hs
    ·by_cases hs: -128≤sgB i 16∧sgB i 16≤127
     ·rw[show B5 _=[131,mrB D d,i%256]by simp[B5,hs,A0T,hD]];exact A1Y _ d s i D b wk (D6 bb 0) (by omega) (by omega) hs
     ·rw[show B5 _=129::mrB D d::leB i 2 by simp[B5,hs,A0T,hD]];exact A1Z _ d s i D b wk (D6 bb 0) (by omega) (by omega) hs
theorem B2M(base:Nat)(w:World)(g:Nat)(hg:blk w g #[.int .i64 32] 3)(lg:base≤g):Knd base w (.agg #[.func (.func 181) #[] #[],.slice (some ⟨g,0,none⟩) 1 1,.func (.func 182) #[] #[]]) 20:=by
 refine⟨181,182,#[],#[],g,fun x=>x=g,rfl,fun _ _=>by kernel_rfl,fun _ _=>by kernel_rfl,?_,?_⟩
 ·rintro x rfl;exact⟨lg,D5 hg⟩
 ·intro wk hs hT;have kg:=hT g (rfl);have bg:blk wk g #[.int .i64 32] 3:=by unfold blk at hg⊢;rw[kg];exact hg
  refine⟨E6 (xs:=[32]) bg rfl (by decide),fun x hx hz=>?_,fun x hx hok=>?_⟩
  ·obtain⟨o,d,s,z,i⟩:=x;simp only at hx;subst hx;exact A9A 20 d s z i wk
  ·have hf:=D4 hok;have hz:=F6 hok;clear hok;obtain⟨o,d,s,z,i⟩:=x;simp only at hx;subst hx;simp[G7,J0,isR,isM,isL,isC,isB,I5]at hf;exact wr_mul 20 d s z i wk
theorem B2A(o D:Int)(ho:(o=21∧D=4)∨(o=22∧D=5)∨(o=23∧D=7))(base:Nat)(w:World)(g b b2:Nat)(hg:blk w g #[.int .i64 32,.int .i64 16] 3)(hb:blk w b #[.int .u8 211] 5)(hb2:blk w b2 #[.int .i64 D] 3)(lg:base≤g)(lb:base≤b)(lb2:base≤b2):Knd base w (.agg #[.func (.func 238) #[] #[],.slice (some ⟨g,0,none⟩) 2 2,.func (.func 239) #[] #[.pointer (some ⟨b,0,none⟩),.pointer (some ⟨b2,0,none⟩)]]) o:=by
 rcases ho with⟨rfl,hD⟩|⟨rfl,hD⟩|⟨rfl,hD⟩
 all_goals
  refine⟨238,239,#[],#[.pointer (some ⟨b,0,none⟩),.pointer (some ⟨b2,0,none⟩)],g,fun x=>x=g∨x=b∨x=b2,rfl,fun _ _=>by kernel_rfl,fun _ _=>by kernel_rfl,?_,?_⟩
  ·rintro x (rfl|rfl|rfl)
   ·exact⟨lg,D5 hg⟩
   ·exact⟨lb,D5 hb⟩
   ·exact⟨lb2,D5 hb2⟩
  ·intro wk hs hT;have kg:=hT g (.inl rfl);have bg:blk wk g #[.int .i64 32,.int .i64 16] 3:=by unfold blk at hg⊢;rw[kg];exact hg
   have kb:=hT b (.inr (.inl rfl));have bb:blk wk b #[.int .u8 211] 5:=by unfold blk at hb⊢;rw[kb];exact hb
   have kb2:=hT b2 (.inr (.inr (rfl)));have bb2:blk wk b2 #[.int .i64 D] 3:=by unfold blk at hb2⊢;rw[kb2];exact hb2
   refine⟨E6 (xs:=[32,16]) bg rfl (by decide),fun x hx hz=>?_,fun x hx hok=>?_⟩
   ·obtain⟨o,d,s,z,i⟩:=x;simp only at hx;subst hx;exact c9 _ d s z i wk
   ·have hf:=D4 hok;have hz:=F6 hok;clear hok;obtain⟨o,d,s,z,i⟩:=x;simp only at hx;subst hx;subst hD;exact m9 _ d s z i _ _ b b2 wk (D6 bb 0) (D6 bb2 0)
theorem B2B(o D:Int)(ho:(o=24∧D=2)∨(o=25∧D=3))(base:Nat)(w:World)(g b b2:Nat)(hg:blk w g #[.int .i64 32,.int .i64 16] 3)(hb:blk w b #[.int .u8 247] 5)(hb2:blk w b2 #[.int .i64 D] 3)(lg:base≤g)(lb:base≤b)(lb2:base≤b2):Knd base w (.agg #[.func (.func 238) #[] #[],.slice (some ⟨g,0,none⟩) 2 2,.func (.func 239) #[] #[.pointer (some ⟨b,0,none⟩),.pointer (some ⟨b2,0,none⟩)]]) o:=by
 rcases ho with⟨rfl,hD⟩|⟨rfl,hD⟩
 all_goals
  refine⟨238,239,#[],#[.pointer (some ⟨b,0,none⟩),.pointer (some ⟨b2,0,none⟩)],g,fun x=>x=g∨x=b∨x=b2,rfl,fun _ _=>by kernel_rfl,fun _ _=>by kernel_rfl,?_,?_⟩
  ·rintro x (rfl|rfl|rfl)
   ·exact⟨lg,D5 hg⟩
   ·exact⟨lb,D5 hb⟩
   ·exact⟨lb2,D5 hb2⟩
  ·intro wk hs hT;have kg:=hT g (.inl rfl);have bg:blk wk g #[.int .i64 32,.int .i64 16] 3:=by unfold blk at hg⊢;rw[kg];exact hg
   have kb:=hT b (.inr (.inl rfl));have bb:blk wk b #[.int .u8 247] 5:=by unfold blk at hb⊢;rw[kb];exact hb
   have kb2:=hT b2 (.inr (.inr (rfl)));have bb2:blk wk b2 #[.int .i64 D] 3:=by unfold blk at hb2⊢;rw[kb2];exact hb2
   refine⟨E6 (xs:=[32,16]) bg rfl (by decide),fun x hx hz=>?_,fun x hx hok=>?_⟩
   ·obtain⟨o,d,s,z,i⟩:=x;simp only at hx;subst hx;exact c9 _ d s z i wk
   ·have hf:=D4 hok;have hz:=F6 hok;clear hok;obtain⟨o,d,s,z,i⟩:=x;simp only at hx;subst hx;subst hD;exact m9 _ d s z i _ _ b b2 wk (D6 bb 0) (D6 bb2 0)
theorem B2C(o D:Int)(ho:(o=26∧D=6)∨(o=27∧D=7))(base:Nat)(w:World)(g b b2:Nat)(hg:blk w g #[.int .i64 32] 3)(hb:blk w b #[.int .u8 247] 5)(hb2:blk w b2 #[.int .i64 D] 3)(lg:base≤g)(lb:base≤b)(lb2:base≤b2):Knd base w (.agg #[.func (.func 238) #[] #[],.slice (some ⟨g,0,none⟩) 1 1,.func (.func 239) #[] #[.pointer (some ⟨b,0,none⟩),.pointer (some ⟨b2,0,none⟩)]]) o:=by
 rcases ho with⟨rfl,hD⟩|⟨rfl,hD⟩
 all_goals
  refine⟨238,239,#[],#[.pointer (some ⟨b,0,none⟩),.pointer (some ⟨b2,0,none⟩)],g,fun x=>x=g∨x=b∨x=b2,rfl,fun _ _=>by kernel_rfl,fun _ _=>by kernel_rfl,?_,?_⟩
  ·rintro x (rfl|rfl|rfl)
   ·exact⟨lg,D5 hg⟩
   ·exact⟨lb,D5 hb⟩
   ·exact⟨lb2,D5 hb2⟩
  ·intro wk hs hT;have kg:=hT g (.inl rfl);have bg:blk wk g #[.int .i64 32] 3:=by unfold blk at hg⊢;rw[kg];exact hg
   have kb:=hT b (.inr (.inl rfl));have bb:blk wk b #[.int .u8 247] 5:=by unfold blk at hb⊢;rw[kb];exact hb
   have kb2:=hT b2 (.inr (.inr (rfl)));have bb2:blk wk b2 #[.int .i64 D] 3:=by unfold blk at hb2⊢;rw[kb2];exact hb2
   refine⟨E6 (xs:=[32]) bg rfl (by decide),fun x hx hz=>?_,fun x hx hok=>?_⟩
   ·obtain⟨o,d,s,z,i⟩:=x;simp only at hx;subst hx;exact c9 _ d s z i wk
   ·have hf:=D4 hok;have hz:=F6 hok;clear hok;obtain⟨o,d,s,z,i⟩:=x;simp only at hx;subst hx;subst hD;exact m9 _ d s z i _ _ b b2 wk (D6 bb 0) (D6 bb2 0)
theorem B2L(base:Nat)(w:World)(g b go:Nat)(hg:blk w g #[.int .i64 32] 3)(hb:blk w b #[.slice (some ⟨go,0,none⟩) 1 1] 28)(hgo:blk w go #[.int .u8 153] 5)(lg:base≤g)(lb:base≤b)(lgo:base≤go):Knd base w (.agg #[.func (.func 240) #[] #[],.slice (some ⟨g,0,none⟩) 1 1,.func (.func 241) #[] #[.pointer (some ⟨b,0,none⟩)]]) 28:=by
 refine⟨240,241,#[],#[.pointer (some ⟨b,0,none⟩)],g,fun x=>x=g∨x=b∨x=go,rfl,fun _ _=>by kernel_rfl,fun _ _=>by kernel_rfl,?_,?_⟩
 ·rintro x (rfl|rfl|rfl)
  ·exact⟨lg,D5 hg⟩
  ·exact⟨lb,D5 hb⟩
  ·exact⟨lgo,D5 hgo⟩
 ·intro wk hs hT;have kg:=hT g (.inl rfl);have bg:blk wk g #[.int .i64 32] 3:=by unfold blk at hg⊢;rw[kg];exact hg
  have kb:=hT b (.inr (.inl rfl));have bb:blk wk b #[.slice (some ⟨go,0,none⟩) 1 1] 28:=by unfold blk at hb⊢;rw[kb];exact hb
  have kgo:=hT go (.inr (.inr (rfl)));have bgo:blk wk go #[.int .u8 153] 5:=by unfold blk at hgo⊢;rw[kgo];exact hgo
  refine⟨E6 (xs:=[32]) bg rfl (by decide),fun x hx hz=>?_,fun x hx hok=>?_⟩
  ·obtain⟨o,d,s,z,i⟩:=x;simp only at hx;subst hx;exact k9 28 d s z i wk
  ·have hf:=D4 hok;have hz:=F6 hok;clear hok;obtain⟨o,d,s,z,i⟩:=x;simp only at hx;subst hx;exact y5 28 d s z i _ [153] b wk (D6 bb 0) (E6 (xs:=[153]) bgo rfl (by decide)) (by decide) (by decide)
theorem B2K(base:Nat)(w:World)(g:Nat)(hg:blk w g #[.int .i64 32] 3)(lg:base≤g):Knd base w (.agg #[.func (.func 186) #[] #[],.slice (some ⟨g,0,none⟩) 1 1,.func (.func 188) #[] #[]]) 29:=by
 refine⟨186,188,#[],#[],g,fun x=>x=g,rfl,fun _ _=>by kernel_rfl,fun _ _=>by kernel_rfl,?_,?_⟩
 ·rintro x rfl;exact⟨lg,D5 hg⟩
 ·intro wk hs hT;have kg:=hT g (rfl);have bg:blk wk g #[.int .i64 32] 3:=by unfold blk at hg⊢;rw[kg];exact hg
  refine⟨E6 (xs:=[32]) bg rfl (by decide),fun x hx hz=>?_,fun x hx hok=>?_⟩
  ·obtain⟨o,d,s,z,i⟩:=x;simp only at hx;subst hx;exact A8z 29 d s z i wk
  ·have hf:=D4 hok;have hz:=F6 hok;clear hok;obtain⟨o,d,s,z,i⟩:=x;simp only at hx;subst hx;simp[G7,J0,isR,isM,isL,isC,isB,I5]at hf;exact B0f 29 d s z i wk (by omega) (by omega)
theorem B2J(base:Nat)(w:World)(g:Nat)(hg:blk w g #[.int .i64 32] 3)(lg:base≤g):Knd base w (.agg #[.func (.func 189) #[] #[],.slice (some ⟨g,0,none⟩) 1 1,.func (.func 190) #[] #[]]) 30:=by
 refine⟨189,190,#[],#[],g,fun x=>x=g,rfl,fun _ _=>by kernel_rfl,fun _ _=>by kernel_rfl,?_,?_⟩
 ·rintro x rfl;exact⟨lg,D5 hg⟩
 ·intro wk hs hT;have kg:=hT g (rfl);have bg:blk wk g #[.int .i64 32] 3:=by unfold blk at hg⊢;rw[kg];exact hg
  refine⟨E6 (xs:=[32]) bg rfl (by decide),fun x hx hz=>?_,fun x hx hok=>?_⟩
  ·obtain⟨o,d,s,z,i⟩:=x;simp only at hx;subst hx;exact A7C 30 d s z i wk
  ·have hf:=D4 hok;have hz:=F6 hok;clear hok;obtain⟨o,d,s,z,i⟩:=x;simp only at hx;subst hx;simp[G7,J0,isR,isM,isL,isC,isB,I5]at hf;exact A7n 30 d s z i wk
theorem B2I(base:Nat)(w:World)(g:Nat)(hg:blk w g #[.int .i64 32] 3)(lg:base≤g):Knd base w (.agg #[.func (.func 191) #[] #[],.slice (some ⟨g,0,none⟩) 1 1,.func (.func 192) #[] #[]]) 31:=by
 refine⟨191,192,#[],#[],g,fun x=>x=g,rfl,fun _ _=>by kernel_rfl,fun _ _=>by kernel_rfl,?_,?_⟩
 ·rintro x rfl;exact⟨lg,D5 hg⟩
 ·intro wk hs hT;have kg:=hT g (rfl);have bg:blk wk g #[.int .i64 32] 3:=by unfold blk at hg⊢;rw[kg];exact hg
  refine⟨E6 (xs:=[32]) bg rfl (by decide),fun x hx hz=>?_,fun x hx hok=>?_⟩
  ·obtain⟨o,d,s,z,i⟩:=x;simp only at hx;subst hx;exact A7D 31 d s z i wk
  ·have hf:=D4 hok;have hz:=F6 hok;clear hok;obtain⟨o,d,s,z,i⟩:=x;simp only at hx;subst hx;simp[G7,J0,isR,isM,isL,isC,isB,I5]at hf;exact A7s 31 d s z i wk (by omega) (by omega)
theorem B2H(base:Nat)(w:World)(g b1 b2 b3:Nat)(hg:blk w g #[.int .i64 8,.int .i64 32] 3)(hb1:blk w b1 #[.func (.func 194) #[] #[]] 139)(hb2:blk w b2 #[.func (.func 195) #[] #[]] 139)(hb3:blk w b3 #[.func (.func 196) #[] #[]] 176)(lg:base≤g)(lb1:base≤b1)(lb2:base≤b2)(lb3:base≤b3):Knd base w (.agg #[.func (.func 242) #[] #[.pointer (some ⟨b3,0,none⟩)],.slice (some ⟨g,0,none⟩) 2 2,.func (.func 243) #[] #[.pointer (some ⟨b1,0,none⟩),.pointer (some ⟨b2,0,none⟩)]]) 32:=by
 refine⟨242,243,#[.pointer (some ⟨b3,0,none⟩)],#[.pointer (some ⟨b1,0,none⟩),.pointer (some ⟨b2,0,none⟩)],g,fun x=>x=g∨x=b1∨x=b2∨x=b3,rfl,fun _ _=>by kernel_rfl,fun _ _=>by kernel_rfl,?_,?_⟩
 ·rintro x (rfl|rfl|rfl|rfl)
  ·exact⟨lg,D5 hg⟩
  ·exact⟨lb1,D5 hb1⟩
  ·exact⟨lb2,D5 hb2⟩
  ·exact⟨lb3,D5 hb3⟩
 ·intro wk hs hT;have kg:=hT g (.inl rfl);have bg:blk wk g #[.int .i64 8,.int .i64 32] 3:=by unfold blk at hg⊢;rw[kg];exact hg
  have kb1:=hT b1 (.inr (.inl rfl));have bb1:blk wk b1 #[.func (.func 194) #[] #[]] 139:=by unfold blk at hb1⊢;rw[kb1];exact hb1
  have kb2:=hT b2 (.inr (.inr (.inl rfl)));have bb2:blk wk b2 #[.func (.func 195) #[] #[]] 139:=by unfold blk at hb2⊢;rw[kb2];exact hb2
  have kb3:=hT b3 (.inr (.inr (.inr (rfl))));have bb3:blk wk b3 #[.func (.func 196) #[] #[]] 176:=by unfold blk at hb3⊢;rw[kb3];exact hb3
  refine⟨E6 (xs:=[8,32]) bg rfl (by decide),fun x hx hz=>?_,fun x hx hok=>?_⟩
  ·obtain⟨o,d,s,z,i⟩:=x;simp only at hx;subst hx;simp[szI]at hz;rcases hz with rfl|rfl
   ·have h:=A2W 32 d s i b3 wk (D6 bb3 0);rw[show((d==0)&&((isC s)&&isB i))=G7 ⟨32,d,s,8,i⟩by simp[G7,J0]]at h;exact h
   ·have h:=A1H 32 d s i b3 wk (D6 bb3 0);rw[show((d==0)&&((isC s)&&I5 i))=G7 ⟨32,d,s,32,i⟩by simp[G7,J0]]at h;exact h
  ·have hf:=D4 hok;have hz:=F6 hok;clear hok;obtain⟨o,d,s,z,i⟩:=x;simp only at hx;subst hx;simp[szI]at hz;simp[G7,J0,isR,isM,isL,isC,isB,I5]at hf;rcases hz with rfl|rfl
   ·exact A2v 32 d s i b1 b2 wk (D6 bb1 0) (D6 bb2 0) (by omega) (by omega)
   ·exact A1b 32 d s i b1 b2 wk (D6 bb1 0) (D6 bb2 0) (by omega) (by omega) ⟨by omega,by omega⟩
theorem B2G(base:Nat)(w:World)(g b1 b2 b3:Nat)(hg:blk w g #[.int .i64 8,.int .i64 32] 3)(hb1:blk w b1 #[.func (.func 197) #[] #[]] 139)(hb2:blk w b2 #[.func (.func 198) #[] #[]] 139)(hb3:blk w b3 #[.func (.func 199) #[] #[]] 176)(lg:base≤g)(lb1:base≤b1)(lb2:base≤b2)(lb3:base≤b3):Knd base w (.agg #[.func (.func 242) #[] #[.pointer (some ⟨b3,0,none⟩)],.slice (some ⟨g,0,none⟩) 2 2,.func (.func 243) #[] #[.pointer (some ⟨b1,0,none⟩),.pointer (some ⟨b2,0,none⟩)]]) 33:=by
 refine⟨242,243,#[.pointer (some ⟨b3,0,none⟩)],#[.pointer (some ⟨b1,0,none⟩),.pointer (some ⟨b2,0,none⟩)],g,fun x=>x=g∨x=b1∨x=b2∨x=b3,rfl,fun _ _=>by kernel_rfl,fun _ _=>by kernel_rfl,?_,?_⟩
 ·rintro x (rfl|rfl|rfl|rfl)
  ·exact⟨lg,D5 hg⟩
  ·exact⟨lb1,D5 hb1⟩
  ·exact⟨lb2,D5 hb2⟩
  ·exact⟨lb3,D5 hb3⟩
 ·intro wk hs hT;have kg:=hT g (.inl rfl);have bg:blk wk g #[.int .i64 8,.int .i64 32] 3:=by unfold blk at hg⊢;rw[kg];exact hg
  have kb1:=hT b1 (.inr (.inl rfl));have bb1:blk wk b1 #[.func (.func 197) #[] #[]] 139:=by unfold blk at hb1⊢;rw[kb1];exact hb1
  have kb2:=hT b2 (.inr (.inr (.inl rfl)));have bb2:blk wk b2 #[.func (.func 198) #[] #[]] 139:=by unfold blk at hb2⊢;rw[kb2];exact hb2
  have kb3:=hT b3 (.inr (.inr (.inr (rfl))));have bb3:blk wk b3 #[.func (.func 199) #[] #[]] 176:=by unfold blk at hb3⊢;rw[kb3];exact hb3
  refine⟨E6 (xs:=[8,32]) bg rfl (by decide),fun x hx hz=>?_,fun x hx hok=>?_⟩
  ·obtain⟨o,d,s,z,i⟩:=x;simp only at hx;subst hx;simp[szI]at hz;rcases hz with rfl|rfl
   ·have h:=A2V 33 d s i b3 wk (D6 bb3 0);rw[show((d==0)&&((s==0)&&isB i))=G7 ⟨33,d,s,8,i⟩by simp[G7,J0]]at h;exact h
   ·have h:=A1G 33 d s i b3 wk (D6 bb3 0);rw[show((d==0)&&((s==0)&&I5 i))=G7 ⟨33,d,s,32,i⟩by simp[G7,J0]]at h;exact h
  ·have hf:=D4 hok;have hz:=F6 hok;clear hok;obtain⟨o,d,s,z,i⟩:=x;simp only at hx;subst hx;simp[szI]at hz;simp[G7,J0,isR,isM,isL,isC,isB,I5]at hf;rcases hz with rfl|rfl
   ·exact A2u 33 d s i b1 b2 wk (D6 bb1 0) (D6 bb2 0)
   ·exact A1a 33 d s i b1 b2 wk (D6 bb1 0) (D6 bb2 0) ⟨by omega,by omega⟩
theorem B2F(base:Nat)(w:World)(g b go:Nat)(hg:blk w g #[.int .i64 32] 3)(hb:blk w b #[.slice (some ⟨go,0,none⟩) 1 1] 28)(hgo:blk w go #[.int .u8 244] 5)(lg:base≤g)(lb:base≤b)(lgo:base≤go):Knd base w (.agg #[.func (.func 240) #[] #[],.slice (some ⟨g,0,none⟩) 1 1,.func (.func 241) #[] #[.pointer (some ⟨b,0,none⟩)]]) 34:=by
 refine⟨240,241,#[],#[.pointer (some ⟨b,0,none⟩)],g,fun x=>x=g∨x=b∨x=go,rfl,fun _ _=>by kernel_rfl,fun _ _=>by kernel_rfl,?_,?_⟩
 ·rintro x (rfl|rfl|rfl)
  ·exact⟨lg,D5 hg⟩
  ·exact⟨lb,D5 hb⟩
  ·exact⟨lgo,D5 hgo⟩
 ·intro wk hs hT;have kg:=hT g (.inl rfl);have bg:blk wk g #[.int .i64 32] 3:=by unfold blk at hg⊢;rw[kg];exact hg
  have kb:=hT b (.inr (.inl rfl));have bb:blk wk b #[.slice (some ⟨go,0,none⟩) 1 1] 28:=by unfold blk at hb⊢;rw[kb];exact hb
  have kgo:=hT go (.inr (.inr (rfl)));have bgo:blk wk go #[.int .u8 244] 5:=by unfold blk at hgo⊢;rw[kgo];exact hgo
  refine⟨E6 (xs:=[32]) bg rfl (by decide),fun x hx hz=>?_,fun x hx hok=>?_⟩
  ·obtain⟨o,d,s,z,i⟩:=x;simp only at hx;subst hx;exact k9 34 d s z i wk
  ·have hf:=D4 hok;have hz:=F6 hok;clear hok;obtain⟨o,d,s,z,i⟩:=x;simp only at hx;subst hx;exact y5 34 d s z i _ [244] b wk (D6 bb 0) (E6 (xs:=[244]) bgo rfl (by decide)) (by decide) (by decide)
theorem B2E(base:Nat)(w:World)(g b go:Nat)(hg:blk w g #[.int .i64 32] 3)(hb:blk w b #[.slice (some ⟨go,0,none⟩) 2 2] 28)(hgo:blk w go #[.int .u8 15,.int .u8 11] 5)(lg:base≤g)(lb:base≤b)(lgo:base≤go):Knd base w (.agg #[.func (.func 240) #[] #[],.slice (some ⟨g,0,none⟩) 1 1,.func (.func 241) #[] #[.pointer (some ⟨b,0,none⟩)]]) 35:=by
 refine⟨240,241,#[],#[.pointer (some ⟨b,0,none⟩)],g,fun x=>x=g∨x=b∨x=go,rfl,fun _ _=>by kernel_rfl,fun _ _=>by kernel_rfl,?_,?_⟩
 ·rintro x (rfl|rfl|rfl)
  ·exact⟨lg,D5 hg⟩
  ·exact⟨lb,D5 hb⟩
  ·exact⟨lgo,D5 hgo⟩
 ·intro wk hs hT;have kg:=hT g (.inl rfl);have bg:blk wk g #[.int .i64 32] 3:=by unfold blk at hg⊢;rw[kg];exact hg
  have kb:=hT b (.inr (.inl rfl));have bb:blk wk b #[.slice (some ⟨go,0,none⟩) 2 2] 28:=by unfold blk at hb⊢;rw[kb];exact hb
  have kgo:=hT go (.inr (.inr (rfl)));have bgo:blk wk go #[.int .u8 15,.int .u8 11] 5:=by unfold blk at hgo⊢;rw[kgo];exact hgo
  refine⟨E6 (xs:=[32]) bg rfl (by decide),fun x hx hz=>?_,fun x hx hok=>?_⟩
  ·obtain⟨o,d,s,z,i⟩:=x;simp only at hx;subst hx;exact k9 35 d s z i wk
  ·have hf:=D4 hok;have hz:=F6 hok;clear hok;obtain⟨o,d,s,z,i⟩:=x;simp only at hx;subst hx;exact y5 35 d s z i _ [15,11] b wk (D6 bb 0) (E6 (xs:=[15,11]) bgo rfl (by decide)) (by decide) (by decide)
theorem B2D(base:Nat)(w:World)(g b go:Nat)(hg:blk w g #[.int .i64 32] 3)(hb:blk w b #[.slice (some ⟨go,0,none⟩) 1 1] 28)(hgo:blk w go #[.int .u8 144] 5)(lg:base≤g)(lb:base≤b)(lgo:base≤go):Knd base w (.agg #[.func (.func 240) #[] #[],.slice (some ⟨g,0,none⟩) 1 1,.func (.func 241) #[] #[.pointer (some ⟨b,0,none⟩)]]) 36:=by
 refine⟨240,241,#[],#[.pointer (some ⟨b,0,none⟩)],g,fun x=>x=g∨x=b∨x=go,rfl,fun _ _=>by kernel_rfl,fun _ _=>by kernel_rfl,?_,?_⟩
 ·rintro x (rfl|rfl|rfl)
  ·exact⟨lg,D5 hg⟩
  ·exact⟨lb,D5 hb⟩
  ·exact⟨lgo,D5 hgo⟩
 ·intro wk hs hT;have kg:=hT g (.inl rfl);have bg:blk wk g #[.int .i64 32] 3:=by unfold blk at hg⊢;rw[kg];exact hg
  have kb:=hT b (.inr (.inl rfl));have bb:blk wk b #[.slice (some ⟨go,0,none⟩) 1 1] 28:=by unfold blk at hb⊢;rw[kb];exact hb
  have kgo:=hT go (.inr (.inr (rfl)));have bgo:blk wk go #[.int .u8 144] 5:=by unfold blk at hgo⊢;rw[kgo];exact hgo
  refine⟨E6 (xs:=[32]) bg rfl (by decide),fun x hx hz=>?_,fun x hx hok=>?_⟩
  ·obtain⟨o,d,s,z,i⟩:=x;simp only at hx;subst hx;exact k9 36 d s z i wk
  ·have hf:=D4 hok;have hz:=F6 hok;clear hok;obtain⟨o,d,s,z,i⟩:=x;simp only at hx;subst hx;exact y5 36 d s z i _ [144] b wk (D6 bb 0) (E6 (xs:=[144]) bgo rfl (by decide)) (by decide) (by decide)
end Go.Proofs.YtajljbmeaeeknaaGreat
