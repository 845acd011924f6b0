/- -/
import Derived.Test.YtdojafpjipcbjaaGreatK4
import Derived.Test.YtdojafpjipcbjaaGreatK5
open Go.Proofs.Tryz
namespace Go.Proofs.YtdojafpjipcbjaaGreat
set_option linter.unusedVariables false
set_option linter.unusedSimpArgs false
theorem A2j{x:Ins}(h:okI x=true)(r:List Int):N1 (H7 x++r)=(if x.z=16 then 1 else 0)∧O1 (H7 x++r)=(if x.z=16 then 16 else 32)∧
  (H7 x++r).drop (if x.z=16 then 1 else 0)=A5 x++r∧(H7 x).length=(if x.z=16 then 1 else 0)+(A5 x).length:=by
 obtain⟨_,_,h3,_⟩:=A1o h r;unfold H7 N1 O1;by_cases c:x.z=16
 ·rw[if_pos c,if_pos c,if_pos c];refine⟨rfl,rfl,rfl,?_⟩;simp;omega
 ·rw[if_neg c,if_neg c,if_neg c];exact⟨if_neg h3,if_neg h3,rfl,by simp⟩
theorem A5G{x:Ins}(h:okI x=true)(r:List Int):S5 (H7 x++r)=some (x,(H7 x).length):=by
 obtain⟨p1,p2,p3,p4⟩:=A2j h r;obtain⟨h1,h2,h3,_⟩:=A1o h r;unfold S5;rw[p1,p2,p3,h1];simp only;rw[←p4,if_pos];refine⟨⟨?_,h⟩,?_⟩
 ·simp
 ·simp
theorem A5F{x:Ins}(h:okI x=true)(r:List Int):A2E (H7 x++r)=some (x,(H7 x).length):=by
 obtain⟨p1,p2,p3,p4⟩:=A2j h r;obtain⟨h1,h2,h3,_⟩:=A1o h r;unfold A2E;rw[p1,p2,p3,h2,if_pos ⟨h,List.prefix_append _ _⟩]
theorem A2l{b:List Int}{x:Ins}{n:Nat}(h:S5 b=some (x,n)):okI x=true∧n≤b.length∧H7 x=b.take n∧(H7 x).length=n:=by
 unfold S5 at h
 split at h
 ·rename_i c
  obtain⟨⟨c1,c2⟩,c3⟩:=c;cases h;refine⟨c2,c1,c3,?_⟩;rw[c3,List.length_take];omega
 ·cases h
theorem A7F{b:List Int}{x:Ins}{n:Nat}(h:A2E b=some (x,n)):okI x=true∧n≤b.length∧H7 x=b.take n∧(H7 x).length=n:=by
 unfold A2E at h
 split at h
 ·rename_i c
  obtain⟨c1,c2⟩:=c;cases h;exact⟨c1,c2.length_le,List.prefix_iff_eq_take.1 c2,rfl⟩
 ·cases h
theorem A7G(b:List Int):A2E b=S5 b:=by
 cases h:S5 b with
 |some y=>
  obtain⟨x,n⟩:=y;obtain⟨h1,h2,h3,h4⟩:=A2l h;have:=A5F h1 (b.drop n);rw[h3,List.take_append_drop]at this;rw[this,←h3,h4]
 |none=>
  cases h':A2E b with
  |none=>rfl
  |some y=>
   obtain⟨x,n⟩:=y;obtain⟨h1,h2,h3,h4⟩:=A7F h';have:=A5G h1 (b.drop n);rw[h3,List.take_append_drop]at this;rw[this]at h;cases h
end Go.Proofs.YtdojafpjipcbjaaGreat
namespace Go.Proofs.YtdojafpjipcbjaaGreat
open Go.RowKit
set_option linter.unusedVariables false
set_option linter.unusedSimpArgs false
theorem E7{w:World}{g:Nat}{cs:Array Value}{t:TypeId}{k:IntKind}{xs:List Int}(h:blk w g cs t)(hc:cs.toList=xs.map (Value.int k))(hl:xs.length≤1000):Ints k w (.slice (some ⟨g,0,none⟩) xs.length xs.length) xs:=by
 refine⟨some ⟨g,0,none⟩,xs.length,rfl,Nat.le_refl _,⟨by omega,by omega⟩,(fun h=>by cases h),fun i hi=>⟨g,0,rfl,D3 h,?_⟩⟩;show w.cell? ⟨g,0+i*1,none⟩=some (.int k (xs.getD i 0))
 rw[Nat.mul_one,Nat.zero_add,D4 h,←Array.getElem?_toList,hc,List.getElem?_map,List.getD_eq_getElem?_getD,List.getElem?_eq_getElem hi];rfl
def Knd(base:Nat)(w:World)(k:Value)(o:Int):Prop:=
 ∃(FF WW:FuncId) (cF cW:Array Value) (g:Nat) (T:Nat→Prop),k= .agg #[.func (.func FF) #[] cF,.slice (some ⟨g,0,none⟩) (szI o).length (szI o).length,.func (.func WW) #[] cW]∧
  (∀(args:Array Value) (w:World),(callFunc FF args).run prog w= .ok (.enter FF args) w)∧(∀(args:Array Value) (w:World),(callFunc WW args).run prog w= .ok (.enter WW args) w)∧
  (∀b,T b→base≤b∧b<w.heap.size)∧∀wk:World,w.heap.size≤wk.heap.size→(∀b,T b→wk.heap[b]? =w.heap[b]?)→
   Ints .i64 wk (.slice (some ⟨g,0,none⟩) (szI o).length (szI o).length) (szI o)∧
   (∀x:Ins,x.o=o→x.z∈szI o→Calls prog FF (#[D5 x]++cF) wk fun e w'=>e= .returned (.bool (D2 x))∧Below wk.heap.size wk w')∧
   (∀x:Ins,x.o=o→okI x=true→Calls prog WW (#[D5 x]++cW) wk fun e w'=>∃v,e= .returned v∧RowI w' wk.heap.size 5 .u8 v (A5 x)∧Below wk.heap.size wk w')
theorem Knd.keep{base:Nat}{w w':World}{k:Value}{o:Int}(h:Knd base w k o)(hs:w.heap.size≤w'.heap.size)(hk:∀b,base≤b→b<w.heap.size→w'.heap[b]? =w.heap[b]?):Knd base w' k o:=by
 obtain⟨F,W,cF,cW,g,T,h1,h2,h3,h4,h5⟩:=h;refine⟨F,W,cF,cW,g,T,h1,h2,h3,fun b hb=>⟨(h4 b hb).1,by have:=(h4 b hb).2;omega⟩,fun wk hz hT=>h5 wk (by omega) fun b hb=>?_⟩;rw[hT b hb,hk b (h4 b hb).1 (h4 b hb).2]
theorem Knd.mono{base base':Nat}{w:World}{k:Value}{o:Int}(h:Knd base w k o)(hb:base'≤base):Knd base' w k o:=by
 obtain⟨F,W,cF,cW,g,T,h1,h2,h3,h4,h5⟩:=h;exact⟨F,W,cF,cW,g,T,h1,h2,h3,fun b hb'=>⟨by have:=(h4 b hb').1;omega,(h4 b hb').2⟩,h5⟩
theorem Knd.below{base:Nat}{w w':World}{k:Value}{o:Int}(h:Knd base w k o)(hb:Below w.heap.size w w'):Knd base w' k o:=h.keep hb.size fun b _ hl=>hb.block b hl
theorem B2H(base:Nat)(w:World)(g b:Nat)(hg:blk w g #[.int .i64 32,.int .i64 16] 3)(hb:blk w b #[.int .u8 137] 5)(lg:base≤g)(lb:base≤b):Knd base w (.agg #[.func (.func 162) #[] #[],.slice (some ⟨g,0,none⟩) 2 2,.func (.func 163) #[] #[.pointer (some ⟨b,0,none⟩)]]) 0:=by
 refine⟨162,163,#[],#[.pointer (some ⟨b,0,none⟩)],g,fun x=>x=g∨x=b,rfl,fun _ _=>by kernel_rfl,fun _ _=>by kernel_rfl,?_,?_⟩
 ·rintro x (rfl|rfl)
  ·exact⟨lg,D3 hg⟩
  ·exact⟨lb,D3 hb⟩
 ·intro wk hs hT;have kg:=hT g (.inl rfl);have bg:blk wk g #[.int .i64 32,.int .i64 16] 3:=by unfold blk at hg⊢;rw[kg];exact hg
  have kb:=hT b (.inr (rfl));have bb:blk wk b #[.int .u8 137] 5:=by unfold blk at hb⊢;rw[kb];exact hb
  refine⟨E7 (xs:=[32,16]) bg rfl (by decide),fun x hx hz=>?_,fun x hx hok=>?_⟩
  ·obtain⟨o,d,s,z,i⟩:=x;simp only at hx;subst hx;exact A1B 0 d s z i wk
  ·have hf:=B2 hok;have hz:=E8 hok;clear hok;obtain⟨o,d,s,z,i⟩:=x;simp only at hx;subst hx;exact A2J 0 d s z i 137 b wk (D4 bb 0)
theorem B2G(base:Nat)(w:World)(g:Nat)(hg:blk w g #[.int .i64 32,.int .i64 16] 3)(lg:base≤g):Knd base w (.agg #[.func (.func 119) #[] #[],.slice (some ⟨g,0,none⟩) 2 2,.func (.func 122) #[] #[]]) 1:=by
 refine⟨119,122,#[],#[],g,fun x=>x=g,rfl,fun _ _=>by kernel_rfl,fun _ _=>by kernel_rfl,?_,?_⟩
 ·rintro x rfl;exact⟨lg,D3 hg⟩
 ·intro wk hs hT;have kg:=hT g (rfl);have bg:blk wk g #[.int .i64 32,.int .i64 16] 3:=by unfold blk at hg⊢;rw[kg];exact hg
  refine⟨E7 (xs:=[32,16]) bg rfl (by decide),fun x hx hz=>?_,fun x hx hok=>?_⟩
  ·obtain⟨o,d,s,z,i⟩:=x;simp only at hx;subst hx;simp[szI]at hz;rcases hz with rfl|rfl
   ·exact A1C 1 d s i wk
   ·exact A1D 1 d s i wk
  ·have hf:=B2 hok;have hz:=E8 hok;clear hok;obtain⟨o,d,s,z,i⟩:=x;simp only at hx;subst hx;simp[szI]at hz;simp[D2,isR,inZ]at hf;have p32:pwZ 32=4294967296:=rfl;have p16:pwZ 16=65536:=rfl;rcases hz with rfl|rfl
   ·exact A1Q 1 d s i wk ⟨by omega,by omega⟩
   ·exact A1R 1 d s i wk ⟨by omega,by omega⟩
theorem B2F(base:Nat)(w:World)(g b go:Nat)(hg:blk w g #[.int .i64 32,.int .i64 16] 3)(hb:blk w b #[.slice (some ⟨go,0,none⟩) 1 1] 24)(hgo:blk w go #[.int .u8 139] 5)(lg:base≤g)(lb:base≤b)(lgo:base≤go):Knd base w (.agg #[.func (.func 164) #[] #[],.slice (some ⟨g,0,none⟩) 2 2,.func (.func 167) #[] #[.pointer (some ⟨b,0,none⟩)]]) 2:=by
 refine⟨164,167,#[],#[.pointer (some ⟨b,0,none⟩)],g,fun x=>x=g∨x=b∨x=go,rfl,fun _ _=>by kernel_rfl,fun _ _=>by kernel_rfl,?_,?_⟩
 ·rintro x (rfl|rfl|rfl)
  ·exact⟨lg,D3 hg⟩
  ·exact⟨lb,D3 hb⟩
  ·exact⟨lgo,D3 hgo⟩
 ·intro wk hs hT;have kg:=hT g (.inl rfl);have bg:blk wk g #[.int .i64 32,.int .i64 16] 3:=by unfold blk at hg⊢;rw[kg];exact hg
  have kb:=hT b (.inr (.inl rfl));have bb:blk wk b #[.slice (some ⟨go,0,none⟩) 1 1] 24:=by unfold blk at hb⊢;rw[kb];exact hb
  have kgo:=hT go (.inr (.inr (rfl)));have bgo:blk wk go #[.int .u8 139] 5:=by unfold blk at hgo⊢;rw[kgo];exact hgo
  refine⟨E7 (xs:=[32,16]) bg rfl (by decide),fun x hx hz=>?_,fun x hx hok=>?_⟩
  ·obtain⟨o,d,s,z,i⟩:=x;simp only at hx;subst hx;exact l6 2 d s z i wk
  ·have hf:=B2 hok;have hz:=E8 hok;clear hok;obtain⟨o,d,s,z,i⟩:=x;simp only at hx;subst hx;simp[D2,D9,isR,isM,isL,isC,isB,C9]at hf;exact t9 2 d s z i _ [139] b wk (D4 bb 0) (E7 (xs:=[139]) bgo rfl (by decide)) (by decide) (by decide) ⟨by omega,by omega⟩
theorem B2E(base:Nat)(w:World)(g b b2:Nat)(hg:blk w g #[.int .i64 32,.int .i64 16] 3)(hb:blk w b #[.int .u8 137] 5)(hb2:blk w b2 #[.func (.func 120) #[] #[]] 106)(lg:base≤g)(lb:base≤b)(lb2:base≤b2):Knd base w (.agg #[.func (.func 169) #[] #[.pointer (some ⟨b2,0,none⟩)],.slice (some ⟨g,0,none⟩) 2 2,.func (.func 170) #[] #[.pointer (some ⟨b,0,none⟩)]]) 3:=by
 refine⟨169,170,#[.pointer (some ⟨b2,0,none⟩)],#[.pointer (some ⟨b,0,none⟩)],g,fun x=>x=g∨x=b∨x=b2,rfl,fun _ _=>by kernel_rfl,fun _ _=>by kernel_rfl,?_,?_⟩
 ·rintro x (rfl|rfl|rfl)
  ·exact⟨lg,D3 hg⟩
  ·exact⟨lb,D3 hb⟩
  ·exact⟨lb2,D3 hb2⟩
 ·intro wk hs hT;have kg:=hT g (.inl rfl);have bg:blk wk g #[.int .i64 32,.int .i64 16] 3:=by unfold blk at hg⊢;rw[kg];exact hg
  have kb:=hT b (.inr (.inl rfl));have bb:blk wk b #[.int .u8 137] 5:=by unfold blk at hb⊢;rw[kb];exact hb
  have kb2:=hT b2 (.inr (.inr (rfl)));have bb2:blk wk b2 #[.func (.func 120) #[] #[]] 106:=by unfold blk at hb2⊢;rw[kb2];exact hb2
  refine⟨E7 (xs:=[32,16]) bg rfl (by decide),fun x hx hz=>?_,fun x hx hok=>?_⟩
  ·obtain⟨o,d,s,z,i⟩:=x;simp only at hx;subst hx;exact A1p 3 d s z i b2 wk (D4 bb2 0)
  ·have hf:=B2 hok;have hz:=E8 hok;clear hok;obtain⟨o,d,s,z,i⟩:=x;simp only at hx;subst hx;simp[D2,D9,isR,isM,isL,isC,isB,C9]at hf;exact A0S 3 d s z i 137 b wk (D4 bb 0) ⟨by omega,by omega⟩
theorem B2D(base:Nat)(w:World)(g b go:Nat)(hg:blk w g #[.int .i64 32] 3)(hb:blk w b #[.slice (some ⟨go,0,none⟩) 2 2] 24)(hgo:blk w go #[.int .u8 15,.int .u8 182] 5)(lg:base≤g)(lb:base≤b)(lgo:base≤go):Knd base w (.agg #[.func (.func 164) #[] #[],.slice (some ⟨g,0,none⟩) 1 1,.func (.func 167) #[] #[.pointer (some ⟨b,0,none⟩)]]) 4:=by
 refine⟨164,167,#[],#[.pointer (some ⟨b,0,none⟩)],g,fun x=>x=g∨x=b∨x=go,rfl,fun _ _=>by kernel_rfl,fun _ _=>by kernel_rfl,?_,?_⟩
 ·rintro x (rfl|rfl|rfl)
  ·exact⟨lg,D3 hg⟩
  ·exact⟨lb,D3 hb⟩
  ·exact⟨lgo,D3 hgo⟩
 ·intro wk hs hT;have kg:=hT g (.inl rfl);have bg:blk wk g #[.int .i64 32] 3:=by unfold blk at hg⊢;rw[kg];exact hg
  have kb:=hT b (.inr (.inl rfl));have bb:blk wk b #[.slice (some ⟨go,0,none⟩) 2 2] 24:=by unfold blk at hb⊢;rw[kb];exact hb
  have kgo:=hT go (.inr (.inr (rfl)));have bgo:blk wk go #[.int .u8 15,.int .u8 182] 5:=by unfold blk at hgo⊢;rw[kgo];exact hgo
  refine⟨E7 (xs:=[32]) bg rfl (by decide),fun x hx hz=>?_,fun x hx hok=>?_⟩
  ·obtain⟨o,d,s,z,i⟩:=x;simp only at hx;subst hx;exact l6 4 d s z i wk
  ·have hf:=B2 hok;have hz:=E8 hok;clear hok;obtain⟨o,d,s,z,i⟩:=x;simp only at hx;subst hx;simp[D2,D9,isR,isM,isL,isC,isB,C9]at hf;exact t9 4 d s z i _ [15,182] b wk (D4 bb 0) (E7 (xs:=[15,182]) bgo rfl (by decide)) (by decide) (by decide) ⟨by omega,by omega⟩
theorem B2C(base:Nat)(w:World)(g b go:Nat)(hg:blk w g #[.int .i64 32] 3)(hb:blk w b #[.slice (some ⟨go,0,none⟩) 2 2] 24)(hgo:blk w go #[.int .u8 15,.int .u8 183] 5)(lg:base≤g)(lb:base≤b)(lgo:base≤go):Knd base w (.agg #[.func (.func 164) #[] #[],.slice (some ⟨g,0,none⟩) 1 1,.func (.func 167) #[] #[.pointer (some ⟨b,0,none⟩)]]) 5:=by
 refine⟨164,167,#[],#[.pointer (some ⟨b,0,none⟩)],g,fun x=>x=g∨x=b∨x=go,rfl,fun _ _=>by kernel_rfl,fun _ _=>by kernel_rfl,?_,?_⟩
 ·rintro x (rfl|rfl|rfl)
  ·exact⟨lg,D3 hg⟩
  ·exact⟨lb,D3 hb⟩
  ·exact⟨lgo,D3 hgo⟩
 ·intro wk hs hT;have kg:=hT g (.inl rfl);have bg:blk wk g #[.int .i64 32] 3:=by unfold blk at hg⊢;rw[kg];exact hg
  have kb:=hT b (.inr (.inl rfl));have bb:blk wk b #[.slice (some ⟨go,0,none⟩) 2 2] 24:=by unfold blk at hb⊢;rw[kb];exact hb
  have kgo:=hT go (.inr (.inr (rfl)));have bgo:blk wk go #[.int .u8 15,.int .u8 183] 5:=by unfold blk at hgo⊢;rw[kgo];exact hgo
  refine⟨E7 (xs:=[32]) bg rfl (by decide),fun x hx hz=>?_,fun x hx hok=>?_⟩
  ·obtain⟨o,d,s,z,i⟩:=x;simp only at hx;subst hx;exact l6 5 d s z i wk
  ·have hf:=B2 hok;have hz:=E8 hok;clear hok;obtain⟨o,d,s,z,i⟩:=x;simp only at hx;subst hx;simp[D2,D9,isR,isM,isL,isC,isB,C9]at hf;exact t9 5 d s z i _ [15,183] b wk (D4 bb 0) (E7 (xs:=[15,183]) bgo rfl (by decide)) (by decide) (by decide) ⟨by omega,by omega⟩
theorem B2B(base:Nat)(w:World)(g b b2:Nat)(hg:blk w g #[.int .i64 32] 3)(hb:blk w b #[.int .u8 136] 5)(hb2:blk w b2 #[.func (.func 126) #[] #[]] 106)(lg:base≤g)(lb:base≤b)(lb2:base≤b2):Knd base w (.agg #[.func (.func 169) #[] #[.pointer (some ⟨b2,0,none⟩)],.slice (some ⟨g,0,none⟩) 1 1,.func (.func 170) #[] #[.pointer (some ⟨b,0,none⟩)]]) 6:=by
 refine⟨169,170,#[.pointer (some ⟨b2,0,none⟩)],#[.pointer (some ⟨b,0,none⟩)],g,fun x=>x=g∨x=b∨x=b2,rfl,fun _ _=>by kernel_rfl,fun _ _=>by kernel_rfl,?_,?_⟩
 ·rintro x (rfl|rfl|rfl)
  ·exact⟨lg,D3 hg⟩
  ·exact⟨lb,D3 hb⟩
  ·exact⟨lb2,D3 hb2⟩
 ·intro wk hs hT;have kg:=hT g (.inl rfl);have bg:blk wk g #[.int .i64 32] 3:=by unfold blk at hg⊢;rw[kg];exact hg
  have kb:=hT b (.inr (.inl rfl));have bb:blk wk b #[.int .u8 136] 5:=by unfold blk at hb⊢;rw[kb];exact hb
  have kb2:=hT b2 (.inr (.inr (rfl)));have bb2:blk wk b2 #[.func (.func 126) #[] #[]] 106:=by unfold blk at hb2⊢;rw[kb2];exact hb2
  refine⟨E7 (xs:=[32]) bg rfl (by decide),fun x hx hz=>?_,fun x hx hok=>?_⟩
  ·obtain⟨o,d,s,z,i⟩:=x;simp only at hx;subst hx;exact A1q 6 d s z i b2 wk (D4 bb2 0)
  ·have hf:=B2 hok;have hz:=E8 hok;clear hok;obtain⟨o,d,s,z,i⟩:=x;simp only at hx;subst hx;simp[D2,D9,isR,isM,isL,isC,isB,C9]at hf;exact A0S 6 d s z i 136 b wk (D4 bb 0) ⟨by omega,by omega⟩
theorem A4o(o D:Int)(ho:(o=7∧D=1)∨(o=8∧D=9)∨(o=9∧D=33)∨(o=10∧D=41)∨(o=11∧D=49)∨(o=12∧D=57)∨(o=13∧D=133))(base:Nat)(w:World)(g b:Nat)(hg:blk w g #[.int .i64 32,.int .i64 16] 3)(hb:blk w b #[.int .u8 D] 5)(lg:base≤g)(lb:base≤b):Knd base w (.agg #[.func (.func 162) #[] #[],.slice (some ⟨g,0,none⟩) 2 2,.func (.func 163) #[] #[.pointer (some ⟨b,0,none⟩)]]) o:=by
 rcases ho with⟨rfl,hD⟩|⟨rfl,hD⟩|⟨rfl,hD⟩|⟨rfl,hD⟩|⟨rfl,hD⟩|⟨rfl,hD⟩|⟨rfl,hD⟩
 all_goals
  refine⟨162,163,#[],#[.pointer (some ⟨b,0,none⟩)],g,fun x=>x=g∨x=b,rfl,fun _ _=>by kernel_rfl,fun _ _=>by kernel_rfl,?_,?_⟩
  ·rintro x (rfl|rfl)
   ·exact⟨lg,D3 hg⟩
   ·exact⟨lb,D3 hb⟩
  ·intro wk hs hT;have kg:=hT g (.inl rfl);have bg:blk wk g #[.int .i64 32,.int .i64 16] 3:=by unfold blk at hg⊢;rw[kg];exact hg
   have kb:=hT b (.inr (rfl));have bb:blk wk b #[.int .u8 D] 5:=by unfold blk at hb⊢;rw[kb];exact hb
   refine⟨E7 (xs:=[32,16]) bg rfl (by decide),fun x hx hz=>?_,fun x hx hok=>?_⟩
   ·obtain⟨o,d,s,z,i⟩:=x;simp only at hx;subst hx;exact A1B _ d s z i wk
   ·have hf:=B2 hok;have hz:=E8 hok;clear hok;obtain⟨o,d,s,z,i⟩:=x;simp only at hx;subst hx;subst hD;exact A2J _ d s z i _ b wk (D4 bb 0)
theorem A6J(o D:Int)(ho:(o=14∧D=0)∨(o=15∧D=1)∨(o=16∧D=4)∨(o=17∧D=5)∨(o=18∧D=6)∨(o=19∧D=7))(base:Nat)(w:World)(g b:Nat)(hg:blk w g #[.int .i64 32,.int .i64 16] 3)(hb:blk w b #[.int .i64 D] 3)(lg:base≤g)(lb:base≤b):Knd base w (.agg #[.func (.func 171) #[] #[],.slice (some ⟨g,0,none⟩) 2 2,.func (.func 172) #[] #[.pointer (some ⟨b,0,none⟩)]]) o:=by
 rcases ho with⟨rfl,hD⟩|⟨rfl,hD⟩|⟨rfl,hD⟩|⟨rfl,hD⟩|⟨rfl,hD⟩|⟨rfl,hD⟩
 all_goals
  refine⟨171,172,#[],#[.pointer (some ⟨b,0,none⟩)],g,fun x=>x=g∨x=b,rfl,fun _ _=>by kernel_rfl,fun _ _=>by kernel_rfl,?_,?_⟩
  ·rintro x (rfl|rfl)
   ·exact⟨lg,D3 hg⟩
   ·exact⟨lb,D3 hb⟩
  ·intro wk hs hT;have kg:=hT g (.inl rfl);have bg:blk wk g #[.int .i64 32,.int .i64 16] 3:=by unfold blk at hg⊢;rw[kg];exact hg
   have kb:=hT b (.inr (rfl));have bb:blk wk b #[.int .i64 D] 3:=by unfold blk at hb⊢;rw[kb];exact hb
   refine⟨E7 (xs:=[32,16]) bg rfl (by decide),fun x hx hz=>?_,fun x hx hok=>?_⟩
   ·obtain⟨o,d,s,z,i⟩:=x;simp only at hx;subst hx;simp[szI]at hz;rcases hz with rfl|rfl
    ·exact A1r _ d s i wk
    ·exact A1s _ d s i wk
   ·have hf:=B2 hok;have hz:=E8 hok;clear hok;obtain⟨o,d,s,z,i⟩:=x;simp only at hx;subst hx;simp[szI]at hz;simp[D2,isR,inZ]at hf;have p32:pwZ 32=4294967296:=rfl;have p16:pwZ 16=65536:=rfl;rcases hz with rfl|rfl
    ·by_cases hs: -128≤sgB i 32∧sgB i 32≤127
     ·rw[show A5 _=[131,mrB D d,i%256]by simp[A5,hs,M7,hD]];exact A0T _ d s i D b wk (D4 bb 0) (by omega) (by omega) hs
     ·rw[show A5 _=129::mrB D d::leB i 4 by simp[A5,hs,M7,hD]];exact A0U _ d s i D b wk (D4 bb 0) (by omega) (by omega) hs
    ·by_cases hs: -128≤sgB i 16∧sgB i 16≤127
     ·rw[show A5 _=[131,mrB D d,i%256]by simp[A5,hs,M7,hD]];exact A0V _ d s i D b wk (D4 bb 0) (by omega) (by omega) hs
     ·rw[show A5 _=129::mrB D d::leB i 2 by simp[A5,hs,M7,hD]];exact A0W _ d s i D b wk (D4 bb 0) (by omega) (by omega) hs
theorem A9T(base:Nat)(w:World)(g:Nat)(hg:blk w g #[.int .i64 32] 3)(lg:base≤g):Knd base w (.agg #[.func (.func 128) #[] #[],.slice (some ⟨g,0,none⟩) 1 1,.func (.func 129) #[] #[]]) 20:=by
 refine⟨128,129,#[],#[],g,fun x=>x=g,rfl,fun _ _=>by kernel_rfl,fun _ _=>by kernel_rfl,?_,?_⟩
 ·rintro x rfl;exact⟨lg,D3 hg⟩
 ·intro wk hs hT;have kg:=hT g (rfl);have bg:blk wk g #[.int .i64 32] 3:=by unfold blk at hg⊢;rw[kg];exact hg
  refine⟨E7 (xs:=[32]) bg rfl (by decide),fun x hx hz=>?_,fun x hx hok=>?_⟩
  ·obtain⟨o,d,s,z,i⟩:=x;simp only at hx;subst hx;exact A6Y 20 d s z i wk
  ·have hf:=B2 hok;have hz:=E8 hok;clear hok;obtain⟨o,d,s,z,i⟩:=x;simp only at hx;subst hx;simp[D2,D9,isR,isM,isL,isC,isB,C9]at hf;exact wr_mul 20 d s z i wk
theorem A9H(o D:Int)(ho:(o=21∧D=4)∨(o=22∧D=5)∨(o=23∧D=7))(base:Nat)(w:World)(g b b2:Nat)(hg:blk w g #[.int .i64 32,.int .i64 16] 3)(hb:blk w b #[.int .u8 211] 5)(hb2:blk w b2 #[.int .i64 D] 3)(lg:base≤g)(lb:base≤b)(lb2:base≤b2):Knd base w (.agg #[.func (.func 174) #[] #[],.slice (some ⟨g,0,none⟩) 2 2,.func (.func 175) #[] #[.pointer (some ⟨b,0,none⟩),.pointer (some ⟨b2,0,none⟩)]]) o:=by
 rcases ho with⟨rfl,hD⟩|⟨rfl,hD⟩|⟨rfl,hD⟩
 all_goals
  refine⟨174,175,#[],#[.pointer (some ⟨b,0,none⟩),.pointer (some ⟨b2,0,none⟩)],g,fun x=>x=g∨x=b∨x=b2,rfl,fun _ _=>by kernel_rfl,fun _ _=>by kernel_rfl,?_,?_⟩
  ·rintro x (rfl|rfl|rfl)
   ·exact⟨lg,D3 hg⟩
   ·exact⟨lb,D3 hb⟩
   ·exact⟨lb2,D3 hb2⟩
  ·intro wk hs hT;have kg:=hT g (.inl rfl);have bg:blk wk g #[.int .i64 32,.int .i64 16] 3:=by unfold blk at hg⊢;rw[kg];exact hg
   have kb:=hT b (.inr (.inl rfl));have bb:blk wk b #[.int .u8 211] 5:=by unfold blk at hb⊢;rw[kb];exact hb
   have kb2:=hT b2 (.inr (.inr (rfl)));have bb2:blk wk b2 #[.int .i64 D] 3:=by unfold blk at hb2⊢;rw[kb2];exact hb2
   refine⟨E7 (xs:=[32,16]) bg rfl (by decide),fun x hx hz=>?_,fun x hx hok=>?_⟩
   ·obtain⟨o,d,s,z,i⟩:=x;simp only at hx;subst hx;exact V5 _ d s z i wk
   ·have hf:=B2 hok;have hz:=E8 hok;clear hok;obtain⟨o,d,s,z,i⟩:=x;simp only at hx;subst hx;subst hD;exact Z0 _ d s z i _ _ b b2 wk (D4 bb 0) (D4 bb2 0)
theorem A9I(o D:Int)(ho:(o=24∧D=2)∨(o=25∧D=3))(base:Nat)(w:World)(g b b2:Nat)(hg:blk w g #[.int .i64 32,.int .i64 16] 3)(hb:blk w b #[.int .u8 247] 5)(hb2:blk w b2 #[.int .i64 D] 3)(lg:base≤g)(lb:base≤b)(lb2:base≤b2):Knd base w (.agg #[.func (.func 174) #[] #[],.slice (some ⟨g,0,none⟩) 2 2,.func (.func 175) #[] #[.pointer (some ⟨b,0,none⟩),.pointer (some ⟨b2,0,none⟩)]]) o:=by
 rcases ho with⟨rfl,hD⟩|⟨rfl,hD⟩
 all_goals
  refine⟨174,175,#[],#[.pointer (some ⟨b,0,none⟩),.pointer (some ⟨b2,0,none⟩)],g,fun x=>x=g∨x=b∨x=b2,rfl,fun _ _=>by kernel_rfl,fun _ _=>by kernel_rfl,?_,?_⟩
  ·rintro x (rfl|rfl|rfl)
   ·exact⟨lg,D3 hg⟩
   ·exact⟨lb,D3 hb⟩
   ·exact⟨lb2,D3 hb2⟩
  ·intro wk hs hT;have kg:=hT g (.inl rfl);have bg:blk wk g #[.int .i64 32,.int .i64 16] 3:=by unfold blk at hg⊢;rw[kg];exact hg
   have kb:=hT b (.inr (.inl rfl));have bb:blk wk b #[.int .u8 247] 5:=by unfold blk at hb⊢;rw[kb];exact hb
   have kb2:=hT b2 (.inr (.inr (rfl)));have bb2:blk wk b2 #[.int .i64 D] 3:=by unfold blk at hb2⊢;rw[kb2];exact hb2
   refine⟨E7 (xs:=[32,16]) bg rfl (by decide),fun x hx hz=>?_,fun x hx hok=>?_⟩
   ·obtain⟨o,d,s,z,i⟩:=x;simp only at hx;subst hx;exact V5 _ d s z i wk
   ·have hf:=B2 hok;have hz:=E8 hok;clear hok;obtain⟨o,d,s,z,i⟩:=x;simp only at hx;subst hx;subst hD;exact Z0 _ d s z i _ _ b b2 wk (D4 bb 0) (D4 bb2 0)
theorem A9J(o D:Int)(ho:(o=26∧D=6)∨(o=27∧D=7))(base:Nat)(w:World)(g b b2:Nat)(hg:blk w g #[.int .i64 32] 3)(hb:blk w b #[.int .u8 247] 5)(hb2:blk w b2 #[.int .i64 D] 3)(lg:base≤g)(lb:base≤b)(lb2:base≤b2):Knd base w (.agg #[.func (.func 174) #[] #[],.slice (some ⟨g,0,none⟩) 1 1,.func (.func 175) #[] #[.pointer (some ⟨b,0,none⟩),.pointer (some ⟨b2,0,none⟩)]]) o:=by
 rcases ho with⟨rfl,hD⟩|⟨rfl,hD⟩
 all_goals
  refine⟨174,175,#[],#[.pointer (some ⟨b,0,none⟩),.pointer (some ⟨b2,0,none⟩)],g,fun x=>x=g∨x=b∨x=b2,rfl,fun _ _=>by kernel_rfl,fun _ _=>by kernel_rfl,?_,?_⟩
  ·rintro x (rfl|rfl|rfl)
   ·exact⟨lg,D3 hg⟩
   ·exact⟨lb,D3 hb⟩
   ·exact⟨lb2,D3 hb2⟩
  ·intro wk hs hT;have kg:=hT g (.inl rfl);have bg:blk wk g #[.int .i64 32] 3:=by unfold blk at hg⊢;rw[kg];exact hg
   have kb:=hT b (.inr (.inl rfl));have bb:blk wk b #[.int .u8 247] 5:=by unfold blk at hb⊢;rw[kb];exact hb
   have kb2:=hT b2 (.inr (.inr (rfl)));have bb2:blk wk b2 #[.int .i64 D] 3:=by unfold blk at hb2⊢;rw[kb2];exact hb2
   refine⟨E7 (xs:=[32]) bg rfl (by decide),fun x hx hz=>?_,fun x hx hok=>?_⟩
   ·obtain⟨o,d,s,z,i⟩:=x;simp only at hx;subst hx;exact V5 _ d s z i wk
   ·have hf:=B2 hok;have hz:=E8 hok;clear hok;obtain⟨o,d,s,z,i⟩:=x;simp only at hx;subst hx;subst hD;exact Z0 _ d s z i _ _ b b2 wk (D4 bb 0) (D4 bb2 0)
theorem A9S(base:Nat)(w:World)(g b go:Nat)(hg:blk w g #[.int .i64 32] 3)(hb:blk w b #[.slice (some ⟨go,0,none⟩) 1 1] 24)(hgo:blk w go #[.int .u8 153] 5)(lg:base≤g)(lb:base≤b)(lgo:base≤go):Knd base w (.agg #[.func (.func 176) #[] #[],.slice (some ⟨g,0,none⟩) 1 1,.func (.func 177) #[] #[.pointer (some ⟨b,0,none⟩)]]) 28:=by
 refine⟨176,177,#[],#[.pointer (some ⟨b,0,none⟩)],g,fun x=>x=g∨x=b∨x=go,rfl,fun _ _=>by kernel_rfl,fun _ _=>by kernel_rfl,?_,?_⟩
 ·rintro x (rfl|rfl|rfl)
  ·exact⟨lg,D3 hg⟩
  ·exact⟨lb,D3 hb⟩
  ·exact⟨lgo,D3 hgo⟩
 ·intro wk hs hT;have kg:=hT g (.inl rfl);have bg:blk wk g #[.int .i64 32] 3:=by unfold blk at hg⊢;rw[kg];exact hg
  have kb:=hT b (.inr (.inl rfl));have bb:blk wk b #[.slice (some ⟨go,0,none⟩) 1 1] 24:=by unfold blk at hb⊢;rw[kb];exact hb
  have kgo:=hT go (.inr (.inr (rfl)));have bgo:blk wk go #[.int .u8 153] 5:=by unfold blk at hgo⊢;rw[kgo];exact hgo
  refine⟨E7 (xs:=[32]) bg rfl (by decide),fun x hx hz=>?_,fun x hx hok=>?_⟩
  ·obtain⟨o,d,s,z,i⟩:=x;simp only at hx;subst hx;exact Y6 28 d s z i wk
  ·have hf:=B2 hok;have hz:=E8 hok;clear hok;obtain⟨o,d,s,z,i⟩:=x;simp only at hx;subst hx;exact f7 28 d s z i _ [153] b wk (D4 bb 0) (E7 (xs:=[153]) bgo rfl (by decide)) (by decide) (by decide)
theorem A9R(base:Nat)(w:World)(g:Nat)(hg:blk w g #[.int .i64 32] 3)(lg:base≤g):Knd base w (.agg #[.func (.func 133) #[] #[],.slice (some ⟨g,0,none⟩) 1 1,.func (.func 135) #[] #[]]) 29:=by
 refine⟨133,135,#[],#[],g,fun x=>x=g,rfl,fun _ _=>by kernel_rfl,fun _ _=>by kernel_rfl,?_,?_⟩
 ·rintro x rfl;exact⟨lg,D3 hg⟩
 ·intro wk hs hT;have kg:=hT g (rfl);have bg:blk wk g #[.int .i64 32] 3:=by unfold blk at hg⊢;rw[kg];exact hg
  refine⟨E7 (xs:=[32]) bg rfl (by decide),fun x hx hz=>?_,fun x hx hok=>?_⟩
  ·obtain⟨o,d,s,z,i⟩:=x;simp only at hx;subst hx;exact A6W 29 d s z i wk
  ·have hf:=B2 hok;have hz:=E8 hok;clear hok;obtain⟨o,d,s,z,i⟩:=x;simp only at hx;subst hx;simp[D2,D9,isR,isM,isL,isC,isB,C9]at hf;exact A7e 29 d s z i wk (by omega) (by omega)
theorem A9Q(base:Nat)(w:World)(g:Nat)(hg:blk w g #[.int .i64 32] 3)(lg:base≤g):Knd base w (.agg #[.func (.func 136) #[] #[],.slice (some ⟨g,0,none⟩) 1 1,.func (.func 137) #[] #[]]) 30:=by
 refine⟨136,137,#[],#[],g,fun x=>x=g,rfl,fun _ _=>by kernel_rfl,fun _ _=>by kernel_rfl,?_,?_⟩
 ·rintro x rfl;exact⟨lg,D3 hg⟩
 ·intro wk hs hT;have kg:=hT g (rfl);have bg:blk wk g #[.int .i64 32] 3:=by unfold blk at hg⊢;rw[kg];exact hg
  refine⟨E7 (xs:=[32]) bg rfl (by decide),fun x hx hz=>?_,fun x hx hok=>?_⟩
  ·obtain⟨o,d,s,z,i⟩:=x;simp only at hx;subst hx;exact A4v 30 d s z i wk
  ·have hf:=B2 hok;have hz:=E8 hok;clear hok;obtain⟨o,d,s,z,i⟩:=x;simp only at hx;subst hx;simp[D2,D9,isR,isM,isL,isC,isB,C9]at hf;exact A5Q 30 d s z i wk
theorem A9P(base:Nat)(w:World)(g:Nat)(hg:blk w g #[.int .i64 32] 3)(lg:base≤g):Knd base w (.agg #[.func (.func 138) #[] #[],.slice (some ⟨g,0,none⟩) 1 1,.func (.func 139) #[] #[]]) 31:=by
 refine⟨138,139,#[],#[],g,fun x=>x=g,rfl,fun _ _=>by kernel_rfl,fun _ _=>by kernel_rfl,?_,?_⟩
 ·rintro x rfl;exact⟨lg,D3 hg⟩
 ·intro wk hs hT;have kg:=hT g (rfl);have bg:blk wk g #[.int .i64 32] 3:=by unfold blk at hg⊢;rw[kg];exact hg
  refine⟨E7 (xs:=[32]) bg rfl (by decide),fun x hx hz=>?_,fun x hx hok=>?_⟩
  ·obtain⟨o,d,s,z,i⟩:=x;simp only at hx;subst hx;exact A4w 31 d s z i wk
  ·have hf:=B2 hok;have hz:=E8 hok;clear hok;obtain⟨o,d,s,z,i⟩:=x;simp only at hx;subst hx;simp[D2,D9,isR,isM,isL,isC,isB,C9]at hf;exact A5V 31 d s z i wk (by omega) (by omega)
theorem A9O(base:Nat)(w:World)(g b1 b2 b3:Nat)(hg:blk w g #[.int .i64 8,.int .i64 32] 3)(hb1:blk w b1 #[.func (.func 141) #[] #[]] 87)(hb2:blk w b2 #[.func (.func 142) #[] #[]] 87)(hb3:blk w b3 #[.func (.func 143) #[] #[]] 116)(lg:base≤g)(lb1:base≤b1)(lb2:base≤b2)(lb3:base≤b3):Knd base w (.agg #[.func (.func 178) #[] #[.pointer (some ⟨b3,0,none⟩)],.slice (some ⟨g,0,none⟩) 2 2,.func (.func 179) #[] #[.pointer (some ⟨b1,0,none⟩),.pointer (some ⟨b2,0,none⟩)]]) 32:=by
 refine⟨178,179,#[.pointer (some ⟨b3,0,none⟩)],#[.pointer (some ⟨b1,0,none⟩),.pointer (some ⟨b2,0,none⟩)],g,fun x=>x=g∨x=b1∨x=b2∨x=b3,rfl,fun _ _=>by kernel_rfl,fun _ _=>by kernel_rfl,?_,?_⟩
 ·rintro x (rfl|rfl|rfl|rfl)
  ·exact⟨lg,D3 hg⟩
  ·exact⟨lb1,D3 hb1⟩
  ·exact⟨lb2,D3 hb2⟩
  ·exact⟨lb3,D3 hb3⟩
 ·intro wk hs hT;have kg:=hT g (.inl rfl);have bg:blk wk g #[.int .i64 8,.int .i64 32] 3:=by unfold blk at hg⊢;rw[kg];exact hg
  have kb1:=hT b1 (.inr (.inl rfl));have bb1:blk wk b1 #[.func (.func 141) #[] #[]] 87:=by unfold blk at hb1⊢;rw[kb1];exact hb1
  have kb2:=hT b2 (.inr (.inr (.inl rfl)));have bb2:blk wk b2 #[.func (.func 142) #[] #[]] 87:=by unfold blk at hb2⊢;rw[kb2];exact hb2
  have kb3:=hT b3 (.inr (.inr (.inr (rfl))));have bb3:blk wk b3 #[.func (.func 143) #[] #[]] 116:=by unfold blk at hb3⊢;rw[kb3];exact hb3
  refine⟨E7 (xs:=[8,32]) bg rfl (by decide),fun x hx hz=>?_,fun x hx hok=>?_⟩
  ·obtain⟨o,d,s,z,i⟩:=x;simp only at hx;subst hx;simp[szI]at hz;rcases hz with rfl|rfl
   ·have h:=A1F 32 d s i b3 wk (D4 bb3 0);rw[show((d==0)&&((isC s)&&isB i))=D2 ⟨32,d,s,8,i⟩by simp[D2,D9]]at h;exact h
   ·have h:=A0L 32 d s i b3 wk (D4 bb3 0);rw[show((d==0)&&((isC s)&&C9 i))=D2 ⟨32,d,s,32,i⟩by simp[D2,D9]]at h;exact h
  ·have hf:=B2 hok;have hz:=E8 hok;clear hok;obtain⟨o,d,s,z,i⟩:=x;simp only at hx;subst hx;simp[szI]at hz;simp[D2,D9,isR,isM,isL,isC,isB,C9]at hf;rcases hz with rfl|rfl
   ·exact A1T 32 d s i b1 b2 wk (D4 bb1 0) (D4 bb2 0) (by omega) (by omega)
   ·exact A0Y 32 d s i b1 b2 wk (D4 bb1 0) (D4 bb2 0) (by omega) (by omega) ⟨by omega,by omega⟩
theorem A9N(base:Nat)(w:World)(g b1 b2 b3:Nat)(hg:blk w g #[.int .i64 8,.int .i64 32] 3)(hb1:blk w b1 #[.func (.func 144) #[] #[]] 87)(hb2:blk w b2 #[.func (.func 145) #[] #[]] 87)(hb3:blk w b3 #[.func (.func 146) #[] #[]] 116)(lg:base≤g)(lb1:base≤b1)(lb2:base≤b2)(lb3:base≤b3):Knd base w (.agg #[.func (.func 178) #[] #[.pointer (some ⟨b3,0,none⟩)],.slice (some ⟨g,0,none⟩) 2 2,.func (.func 179) #[] #[.pointer (some ⟨b1,0,none⟩),.pointer (some ⟨b2,0,none⟩)]]) 33:=by
 refine⟨178,179,#[.pointer (some ⟨b3,0,none⟩)],#[.pointer (some ⟨b1,0,none⟩),.pointer (some ⟨b2,0,none⟩)],g,fun x=>x=g∨x=b1∨x=b2∨x=b3,rfl,fun _ _=>by kernel_rfl,fun _ _=>by kernel_rfl,?_,?_⟩
 ·rintro x (rfl|rfl|rfl|rfl)
  ·exact⟨lg,D3 hg⟩
  ·exact⟨lb1,D3 hb1⟩
  ·exact⟨lb2,D3 hb2⟩
  ·exact⟨lb3,D3 hb3⟩
 ·intro wk hs hT;have kg:=hT g (.inl rfl);have bg:blk wk g #[.int .i64 8,.int .i64 32] 3:=by unfold blk at hg⊢;rw[kg];exact hg
  have kb1:=hT b1 (.inr (.inl rfl));have bb1:blk wk b1 #[.func (.func 144) #[] #[]] 87:=by unfold blk at hb1⊢;rw[kb1];exact hb1
  have kb2:=hT b2 (.inr (.inr (.inl rfl)));have bb2:blk wk b2 #[.func (.func 145) #[] #[]] 87:=by unfold blk at hb2⊢;rw[kb2];exact hb2
  have kb3:=hT b3 (.inr (.inr (.inr (rfl))));have bb3:blk wk b3 #[.func (.func 146) #[] #[]] 116:=by unfold blk at hb3⊢;rw[kb3];exact hb3
  refine⟨E7 (xs:=[8,32]) bg rfl (by decide),fun x hx hz=>?_,fun x hx hok=>?_⟩
  ·obtain⟨o,d,s,z,i⟩:=x;simp only at hx;subst hx;simp[szI]at hz;rcases hz with rfl|rfl
   ·have h:=A1E 33 d s i b3 wk (D4 bb3 0);rw[show((d==0)&&((s==0)&&isB i))=D2 ⟨33,d,s,8,i⟩by simp[D2,D9]]at h;exact h
   ·have h:=A0K 33 d s i b3 wk (D4 bb3 0);rw[show((d==0)&&((s==0)&&C9 i))=D2 ⟨33,d,s,32,i⟩by simp[D2,D9]]at h;exact h
  ·have hf:=B2 hok;have hz:=E8 hok;clear hok;obtain⟨o,d,s,z,i⟩:=x;simp only at hx;subst hx;simp[szI]at hz;simp[D2,D9,isR,isM,isL,isC,isB,C9]at hf;rcases hz with rfl|rfl
   ·exact A1S 33 d s i b1 b2 wk (D4 bb1 0) (D4 bb2 0)
   ·exact A0X 33 d s i b1 b2 wk (D4 bb1 0) (D4 bb2 0) ⟨by omega,by omega⟩
theorem A9M(base:Nat)(w:World)(g b go:Nat)(hg:blk w g #[.int .i64 32] 3)(hb:blk w b #[.slice (some ⟨go,0,none⟩) 1 1] 24)(hgo:blk w go #[.int .u8 244] 5)(lg:base≤g)(lb:base≤b)(lgo:base≤go):Knd base w (.agg #[.func (.func 176) #[] #[],.slice (some ⟨g,0,none⟩) 1 1,.func (.func 177) #[] #[.pointer (some ⟨b,0,none⟩)]]) 34:=by
 refine⟨176,177,#[],#[.pointer (some ⟨b,0,none⟩)],g,fun x=>x=g∨x=b∨x=go,rfl,fun _ _=>by kernel_rfl,fun _ _=>by kernel_rfl,?_,?_⟩
 ·rintro x (rfl|rfl|rfl)
  ·exact⟨lg,D3 hg⟩
  ·exact⟨lb,D3 hb⟩
  ·exact⟨lgo,D3 hgo⟩
 ·intro wk hs hT;have kg:=hT g (.inl rfl);have bg:blk wk g #[.int .i64 32] 3:=by unfold blk at hg⊢;rw[kg];exact hg
  have kb:=hT b (.inr (.inl rfl));have bb:blk wk b #[.slice (some ⟨go,0,none⟩) 1 1] 24:=by unfold blk at hb⊢;rw[kb];exact hb
  have kgo:=hT go (.inr (.inr (rfl)));have bgo:blk wk go #[.int .u8 244] 5:=by unfold blk at hgo⊢;rw[kgo];exact hgo
  refine⟨E7 (xs:=[32]) bg rfl (by decide),fun x hx hz=>?_,fun x hx hok=>?_⟩
  ·obtain⟨o,d,s,z,i⟩:=x;simp only at hx;subst hx;exact Y6 34 d s z i wk
  ·have hf:=B2 hok;have hz:=E8 hok;clear hok;obtain⟨o,d,s,z,i⟩:=x;simp only at hx;subst hx;exact f7 34 d s z i _ [244] b wk (D4 bb 0) (E7 (xs:=[244]) bgo rfl (by decide)) (by decide) (by decide)
theorem A9L(base:Nat)(w:World)(g b go:Nat)(hg:blk w g #[.int .i64 32] 3)(hb:blk w b #[.slice (some ⟨go,0,none⟩) 2 2] 24)(hgo:blk w go #[.int .u8 15,.int .u8 11] 5)(lg:base≤g)(lb:base≤b)(lgo:base≤go):Knd base w (.agg #[.func (.func 176) #[] #[],.slice (some ⟨g,0,none⟩) 1 1,.func (.func 177) #[] #[.pointer (some ⟨b,0,none⟩)]]) 35:=by
 refine⟨176,177,#[],#[.pointer (some ⟨b,0,none⟩)],g,fun x=>x=g∨x=b∨x=go,rfl,fun _ _=>by kernel_rfl,fun _ _=>by kernel_rfl,?_,?_⟩
 ·rintro x (rfl|rfl|rfl)
  ·exact⟨lg,D3 hg⟩
  ·exact⟨lb,D3 hb⟩
  ·exact⟨lgo,D3 hgo⟩
 ·intro wk hs hT;have kg:=hT g (.inl rfl);have bg:blk wk g #[.int .i64 32] 3:=by unfold blk at hg⊢;rw[kg];exact hg
  have kb:=hT b (.inr (.inl rfl));have bb:blk wk b #[.slice (some ⟨go,0,none⟩) 2 2] 24:=by unfold blk at hb⊢;rw[kb];exact hb
  have kgo:=hT go (.inr (.inr (rfl)));have bgo:blk wk go #[.int .u8 15,.int .u8 11] 5:=by unfold blk at hgo⊢;rw[kgo];exact hgo
  refine⟨E7 (xs:=[32]) bg rfl (by decide),fun x hx hz=>?_,fun x hx hok=>?_⟩
  ·obtain⟨o,d,s,z,i⟩:=x;simp only at hx;subst hx;exact Y6 35 d s z i wk
  ·have hf:=B2 hok;have hz:=E8 hok;clear hok;obtain⟨o,d,s,z,i⟩:=x;simp only at hx;subst hx;exact f7 35 d s z i _ [15,11] b wk (D4 bb 0) (E7 (xs:=[15,11]) bgo rfl (by decide)) (by decide) (by decide)
theorem A9K(base:Nat)(w:World)(g b go:Nat)(hg:blk w g #[.int .i64 32] 3)(hb:blk w b #[.slice (some ⟨go,0,none⟩) 1 1] 24)(hgo:blk w go #[.int .u8 144] 5)(lg:base≤g)(lb:base≤b)(lgo:base≤go):Knd base w (.agg #[.func (.func 176) #[] #[],.slice (some ⟨g,0,none⟩) 1 1,.func (.func 177) #[] #[.pointer (some ⟨b,0,none⟩)]]) 36:=by
 refine⟨176,177,#[],#[.pointer (some ⟨b,0,none⟩)],g,fun x=>x=g∨x=b∨x=go,rfl,fun _ _=>by kernel_rfl,fun _ _=>by kernel_rfl,?_,?_⟩
 ·rintro x (rfl|rfl|rfl)
  ·exact⟨lg,D3 hg⟩
  ·exact⟨lb,D3 hb⟩
  ·exact⟨lgo,D3 hgo⟩
 ·intro wk hs hT;have kg:=hT g (.inl rfl);have bg:blk wk g #[.int .i64 32] 3:=by unfold blk at hg⊢;rw[kg];exact hg
  have kb:=hT b (.inr (.inl rfl));have bb:blk wk b #[.slice (some ⟨go,0,none⟩) 1 1] 24:=by unfold blk at hb⊢;rw[kb];exact hb
  have kgo:=hT go (.inr (.inr (rfl)));have bgo:blk wk go #[.int .u8 144] 5:=by unfold blk at hgo⊢;rw[kgo];exact hgo
  refine⟨E7 (xs:=[32]) bg rfl (by decide),fun x hx hz=>?_,fun x hx hok=>?_⟩
  ·obtain⟨o,d,s,z,i⟩:=x;simp only at hx;subst hx;exact Y6 36 d s z i wk
  ·have hf:=B2 hok;have hz:=E8 hok;clear hok;obtain⟨o,d,s,z,i⟩:=x;simp only at hx;subst hx;exact f7 36 d s z i _ [144] b wk (D4 bb 0) (E7 (xs:=[144]) bgo rfl (by decide)) (by decide) (by decide)
end Go.Proofs.YtdojafpjipcbjaaGreat
