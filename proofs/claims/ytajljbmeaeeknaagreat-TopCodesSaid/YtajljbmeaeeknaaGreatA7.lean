/- -/
import Derived.Deep.Cut
import Derived.Test.YtajljbmeaeeknaaGreatA6
open Go.Proofs.Tryz
open Go.Lib (hid)
set_option maxRecDepth 100000
namespace Go.Proofs.YtajljbmeaeeknaaGreat
open Go.RowKit Go.Maps
set_option linter.unusedVariables false
set_option linter.unusedSimpArgs false
theorem j7{p:Prop}(h:p:=by
 go_enter func112,ntmps112;go_wp2_with(first|(go_at_call 157;(with_reducible refine(HT.out _ _).mono ?_);rintro e w' ⟨rfl,rfl⟩))
 go_ret;exact⟨rfl,rfl⟩
 ):p:=h
theorem A4b{p:Prop}(h:p:=by
 go_enter func112,ntmps112;go_wp2_with(first|(go_at_call 157;(with_reducible refine(HT.out _ _).mono ?_);rintro e w' ⟨rfl,rfl⟩))
 go_ret;exact⟨by rw[←HS.out];rfl,rfl⟩
 ):p:=h
theorem A8d{p:Prop}(h:p:=by
 go_enter func112,ntmps112;go_wp2_with(first|(go_at_call 157;(with_reducible refine(HT.out _ _).mono ?_);rintro e w' ⟨rfl,rfl⟩)|(go_at_call 158;(with_reducible refine(HD.out _).mono ?_);rintro e w' ⟨rfl,rfl⟩))
 go_ret;exact⟨rfl,rfl⟩
 ):p:=h
theorem A7u(w:World):Calls prog 157 #[.bool true] w fun e w'=>e= .returned (.int .u32 1)∧w=w':=by
 go_enter func157,ntmps157;go_wp2_with fail
 go_ret;exact⟨rfl,rfl⟩
theorem A7v(w:World):Calls prog 157 #[.bool false] w fun e w'=>e= .returned (.int .u32 0)∧w=w':=by
 go_enter func157,ntmps157;go_wp2_with fail
 go_ret;exact⟨rfl,rfl⟩
def trR(b:Bool):Int:=if b=true then 1 else 0
theorem F5(b:Bool)(w:World):Calls prog 157 #[.bool b] w fun e w'=>e= .returned (.int .u32 (trR b))∧w=w':=by
 cases b
 ·exact A7v w
 ·exact A7u w
theorem A5j(b:Bool):0≤trR b∧trR b<4294967296:=by cases b<;>decide
theorem A0J{op:BinOp}(h:op= .and∨op= .or∨op= .xor)(a b:Int):0≤bits op .u32 a b∧bits op .u32 a b<4294967296:=by
 have key:∀n:Int,0≤IntKind.u32.wrap n∧IntKind.u32.wrap n<4294967296:=fun n=>by
  simp only[IntKind.wrap,IntKind.bits,IntKind.signed];simp;omega
 rcases h with rfl|rfl|rfl<;>exact key _
theorem U9(a:Int): -2147483648≤wrap32 a∧wrap32 a<2147483648:=by unfold wrap32;omega
theorem A0i{b:Int}(b0:0≤b)(b1:b<4294967296)(h:b≠0):wrap32 b≠0:=by unfold wrap32;omega
def l9(o a b:Int):Int:=
 if o=11 then(if b=0 then 4294967295 else wrap64 ((wrap32 a).tdiv (wrap32 b))%4294967296)
 else if o=12 then(if b=0 then 4294967295 else a.tdiv b%4294967296)
 else if o=13 then(if b=0 then a else(wrap32 a).tmod (wrap32 b)%4294967296)
 else(if b=0 then a else a.tmod b%4294967296)
def M9(o a b:Int):Int:=
 if o=0∨o=15 then(a+b)%4294967296 else if o=1 then(a-b)%4294967296 else if o=2∨o=21 then a*2^(b%32).toNat%4294967296
 else if o=3∨o=16 then trR (decide (wrap32 a<wrap32 b))else if o=4∨o=17 then trR (decide (a<b))else if o=5∨o=18 then bits .xor .u32 a b
 else if o=6∨o=22 then a / 2^(b%32).toNat else if o=7∨o=23 then wrap32 a / 2^(b%32).toNat%4294967296
 else if o=8∨o=19 then bits .or .u32 a b else if o=9∨o=20 then bits .and .u32 a b else if o=10 then a*b%4294967296 else l9 o a b
theorem M2{p:Prop}[Decidable p]{x y:Int}(hx:0≤x∧x<4294967296)(hy:0≤y∧y<4294967296):0≤(if p then x else y)∧(if p then x else y)<4294967296:=by split<;>assumption
theorem A4E{o a b:Int}(a0:0≤a)(a1:a<4294967296):0≤M9 o a b∧M9 o a b<4294967296:=by
 have hp:(0:Int)<2^(b%32).toNat:=Int.pow_pos (by decide);have h6:=Int.ediv_le_self (2^(b%32).toNat) a0;have h7:=Int.ediv_nonneg a0 (Int.le_of_lt hp);have hm:∀n:Int,0≤n%4294967296∧n%4294967296<4294967296:=fun n=>by omega
 unfold M9 l9;exact M2 (hm _) (M2 (hm _) (M2 (hm _) (M2 (A5j _) (M2 (A5j _) (M2 (A0J (by simp) _ _) (M2 ⟨h7,by omega⟩ (M2 (hm _) (M2 (A0J (by simp) _ _) (M2 (A0J (by simp) _ _) (M2 (hm _)
  (M2 (M2 (by decide) (hm _)) (M2 (M2 (by decide) (hm _)) (M2 (M2 ⟨a0,a1⟩ (hm _)) (M2 ⟨a0,a1⟩ (hm _)))))))))))))))
theorem B2l(a b:Int)(a0:0≤a)(a1:a<4294967296)(b0:0≤b)(b1:b<4294967296)(w:World):Calls prog 158 #[.int .i64 11,.int .u32 a,.int .u32 b] w fun e w'=>e= .returned (.int .u32 (l9 11 a b))∧w=w':=by
 by_cases h:b=0
 ·subst h;clear b0 b1;go_enter func158,ntmps158;go_wp2_with fail
  go_ret;exact⟨rfl,rfl⟩
 ·have hn:=A0i b0 b1 h;have hx:=U9 a;have hy:=U9 b;have e:l9 11 a b=wrap64 ((wrap32 a).tdiv (wrap32 b))%4294967296:=by unfold l9;simp[h]
  rw[e];clear e;obtain⟨x,hxx⟩:∃x,wrap32 a=x:=⟨_,rfl⟩
  obtain⟨y,hyy⟩:∃y,wrap32 b=y:=⟨_,rfl⟩
  rw[hxx]at hx;rw[hyy]at hn hy;rw[hxx,hyy];have wx:wrap64 x=x:=IntWalk.wrap64_in _ (by omega);have wy:wrap64 y=y:=IntWalk.wrap64_in _ (by omega);have g0:(b==0)=false:=by simpa using h
  have g1:(y==0)=false:=by simpa using hn
  clear hx hy a0 a1 b0 b1;go_enter func158,ntmps158;go_wp2_with fail
  go_ret;exact⟨rfl,rfl⟩
theorem B2k(a b:Int)(a0:0≤a)(a1:a<4294967296)(b0:0≤b)(b1:b<4294967296)(w:World):Calls prog 158 #[.int .i64 12,.int .u32 a,.int .u32 b] w fun e w'=>e= .returned (.int .u32 (l9 12 a b))∧w=w':=by
 by_cases h:b=0
 ·subst h;clear b0 b1;go_enter func158,ntmps158;go_wp2_with fail
  go_ret;exact⟨rfl,rfl⟩
 ·have hn:=A0i b0 b1 h;have hx:=U9 a;have hy:=U9 b;have e:l9 12 a b=a.tdiv b%4294967296:=by unfold l9;simp[h]
  rw[e];clear e;obtain⟨x,hxx⟩:∃x,wrap32 a=x:=⟨_,rfl⟩
  obtain⟨y,hyy⟩:∃y,wrap32 b=y:=⟨_,rfl⟩
  rw[hxx]at hx;rw[hyy]at hn hy;have wx:wrap64 x=x:=IntWalk.wrap64_in _ (by omega);have wy:wrap64 y=y:=IntWalk.wrap64_in _ (by omega);have g0:(b==0)=false:=by simpa using h
  have g1:(y==0)=false:=by simpa using hn
  clear hx hy a0 a1 b0 b1;go_enter func158,ntmps158;go_wp2_with fail
  go_ret;exact⟨rfl,rfl⟩
theorem B2j(a b:Int)(a0:0≤a)(a1:a<4294967296)(b0:0≤b)(b1:b<4294967296)(w:World):Calls prog 158 #[.int .i64 13,.int .u32 a,.int .u32 b] w fun e w'=>e= .returned (.int .u32 (l9 13 a b))∧w=w':=by
 by_cases h:b=0
 ·subst h;clear b0 b1;go_enter func158,ntmps158;go_wp2_with fail
  go_ret;exact⟨rfl,rfl⟩
 ·have hn:=A0i b0 b1 h;have hx:=U9 a;have hy:=U9 b;have e:l9 13 a b=(wrap32 a).tmod (wrap32 b)%4294967296:=by unfold l9;simp[h]
  rw[e];clear e;obtain⟨x,hxx⟩:∃x,wrap32 a=x:=⟨_,rfl⟩
  obtain⟨y,hyy⟩:∃y,wrap32 b=y:=⟨_,rfl⟩
  rw[hxx]at hx;rw[hyy]at hn hy;rw[hxx,hyy];have wx:wrap64 x=x:=IntWalk.wrap64_in _ (by omega);have wy:wrap64 y=y:=IntWalk.wrap64_in _ (by omega);have g0:(b==0)=false:=by simpa using h
  have g1:(y==0)=false:=by simpa using hn
  clear hx hy a0 a1 b0 b1;go_enter func158,ntmps158;go_wp2_with fail
  go_ret;exact⟨rfl,rfl⟩
theorem B2i(a b:Int)(a0:0≤a)(a1:a<4294967296)(b0:0≤b)(b1:b<4294967296)(w:World):Calls prog 158 #[.int .i64 14,.int .u32 a,.int .u32 b] w fun e w'=>e= .returned (.int .u32 (l9 14 a b))∧w=w':=by
 by_cases h:b=0
 ·subst h;clear b0 b1;go_enter func158,ntmps158;go_wp2_with fail
  go_ret;exact⟨rfl,rfl⟩
 ·have hn:=A0i b0 b1 h;have hx:=U9 a;have hy:=U9 b;have e:l9 14 a b=a.tmod b:=by unfold l9;simp only[Int.reduceEq,if_false,h];exact Int.emod_eq_of_lt (Int.tmod_nonneg b a0) (by have:=Int.tmod_lt_of_pos a (show 0<b by omega);omega)
  rw[e];clear e;obtain⟨x,hxx⟩:∃x,wrap32 a=x:=⟨_,rfl⟩
  obtain⟨y,hyy⟩:∃y,wrap32 b=y:=⟨_,rfl⟩
  rw[hxx]at hx;rw[hyy]at hn hy;have wx:wrap64 x=x:=IntWalk.wrap64_in _ (by omega);have wy:wrap64 y=y:=IntWalk.wrap64_in _ (by omega);have g0:(b==0)=false:=by simpa using h
  have g1:(y==0)=false:=by simpa using hn
  clear hx hy a0 a1 b0 b1;go_enter func158,ntmps158;go_wp2_with fail
  go_ret;exact⟨rfl,rfl⟩
theorem B2x(a b:Int)(a0:0≤a)(a1:a<4294967296)(b0:0≤b)(b1:b<4294967296)(w:World):Calls prog 112 #[.int .i64 0,.int .u32 a,.int .u32 b] w fun e w'=>e= .returned (.int .u32 (M9 0 a b))∧w=w':=by
 have HT:=hid F5;obtain⟨s,hs⟩:∃s,b%32=s:=⟨_,rfl⟩
 have r1:bits .and .u32 b 31=s:=by rw[←hs];exact A9 5 b0 b1 (by decide) rfl
 have s0:0≤s:=by omega
 have s1:s<32:=by omega
 have HS:=hid hs;clear hs;exact j7
theorem B2w(a b:Int)(a0:0≤a)(a1:a<4294967296)(b0:0≤b)(b1:b<4294967296)(w:World):Calls prog 112 #[.int .i64 1,.int .u32 a,.int .u32 b] w fun e w'=>e= .returned (.int .u32 (M9 1 a b))∧w=w':=by
 have HT:=hid F5;obtain⟨s,hs⟩:∃s,b%32=s:=⟨_,rfl⟩
 have r1:bits .and .u32 b 31=s:=by rw[←hs];exact A9 5 b0 b1 (by decide) rfl
 have s0:0≤s:=by omega
 have s1:s<32:=by omega
 have HS:=hid hs;clear hs;exact j7
theorem B2v(a b:Int)(a0:0≤a)(a1:a<4294967296)(b0:0≤b)(b1:b<4294967296)(w:World):Calls prog 112 #[.int .i64 2,.int .u32 a,.int .u32 b] w fun e w'=>e= .returned (.int .u32 (M9 2 a b))∧w=w':=by
 have HT:=hid F5;obtain⟨s,hs⟩:∃s,b%32=s:=⟨_,rfl⟩
 have r1:bits .and .u32 b 31=s:=by rw[←hs];exact A9 5 b0 b1 (by decide) rfl
 have s0:0≤s:=by omega
 have s1:s<32:=by omega
 have HS:=hid hs;clear hs;exact A4b
theorem B2u(a b:Int)(a0:0≤a)(a1:a<4294967296)(b0:0≤b)(b1:b<4294967296)(w:World):Calls prog 112 #[.int .i64 3,.int .u32 a,.int .u32 b] w fun e w'=>e= .returned (.int .u32 (M9 3 a b))∧w=w':=by
 have HT:=hid F5;obtain⟨s,hs⟩:∃s,b%32=s:=⟨_,rfl⟩
 have r1:bits .and .u32 b 31=s:=by rw[←hs];exact A9 5 b0 b1 (by decide) rfl
 have s0:0≤s:=by omega
 have s1:s<32:=by omega
 have HS:=hid hs;clear hs;exact j7
theorem B2t(a b:Int)(a0:0≤a)(a1:a<4294967296)(b0:0≤b)(b1:b<4294967296)(w:World):Calls prog 112 #[.int .i64 4,.int .u32 a,.int .u32 b] w fun e w'=>e= .returned (.int .u32 (M9 4 a b))∧w=w':=by
 have HT:=hid F5;obtain⟨s,hs⟩:∃s,b%32=s:=⟨_,rfl⟩
 have r1:bits .and .u32 b 31=s:=by rw[←hs];exact A9 5 b0 b1 (by decide) rfl
 have s0:0≤s:=by omega
 have s1:s<32:=by omega
 have HS:=hid hs;clear hs;exact j7
theorem B2s(a b:Int)(a0:0≤a)(a1:a<4294967296)(b0:0≤b)(b1:b<4294967296)(w:World):Calls prog 112 #[.int .i64 5,.int .u32 a,.int .u32 b] w fun e w'=>e= .returned (.int .u32 (M9 5 a b))∧w=w':=by
 have HT:=hid F5;obtain⟨s,hs⟩:∃s,b%32=s:=⟨_,rfl⟩
 have r1:bits .and .u32 b 31=s:=by rw[←hs];exact A9 5 b0 b1 (by decide) rfl
 have s0:0≤s:=by omega
 have s1:s<32:=by omega
 have HS:=hid hs;clear hs;exact j7
theorem B2r(a b:Int)(a0:0≤a)(a1:a<4294967296)(b0:0≤b)(b1:b<4294967296)(w:World):Calls prog 112 #[.int .i64 6,.int .u32 a,.int .u32 b] w fun e w'=>e= .returned (.int .u32 (M9 6 a b))∧w=w':=by
 have HT:=hid F5;obtain⟨s,hs⟩:∃s,b%32=s:=⟨_,rfl⟩
 have r1:bits .and .u32 b 31=s:=by rw[←hs];exact A9 5 b0 b1 (by decide) rfl
 have s0:0≤s:=by omega
 have s1:s<32:=by omega
 have HS:=hid hs;clear hs;exact A4b
theorem B2q(a b:Int)(a0:0≤a)(a1:a<4294967296)(b0:0≤b)(b1:b<4294967296)(w:World):Calls prog 112 #[.int .i64 7,.int .u32 a,.int .u32 b] w fun e w'=>e= .returned (.int .u32 (M9 7 a b))∧w=w':=by
 have HT:=hid F5;obtain⟨s,hs⟩:∃s,b%32=s:=⟨_,rfl⟩
 have r1:bits .and .u32 b 31=s:=by rw[←hs];exact A9 5 b0 b1 (by decide) rfl
 have s0:0≤s:=by omega
 have s1:s<32:=by omega
 have HS:=hid hs;clear hs;exact A4b
theorem B2p(a b:Int)(a0:0≤a)(a1:a<4294967296)(b0:0≤b)(b1:b<4294967296)(w:World):Calls prog 112 #[.int .i64 8,.int .u32 a,.int .u32 b] w fun e w'=>e= .returned (.int .u32 (M9 8 a b))∧w=w':=by
 have HT:=hid F5;obtain⟨s,hs⟩:∃s,b%32=s:=⟨_,rfl⟩
 have r1:bits .and .u32 b 31=s:=by rw[←hs];exact A9 5 b0 b1 (by decide) rfl
 have s0:0≤s:=by omega
 have s1:s<32:=by omega
 have HS:=hid hs;clear hs;exact j7
theorem B2o(a b:Int)(a0:0≤a)(a1:a<4294967296)(b0:0≤b)(b1:b<4294967296)(w:World):Calls prog 112 #[.int .i64 9,.int .u32 a,.int .u32 b] w fun e w'=>e= .returned (.int .u32 (M9 9 a b))∧w=w':=by
 have HT:=hid F5;obtain⟨s,hs⟩:∃s,b%32=s:=⟨_,rfl⟩
 have r1:bits .and .u32 b 31=s:=by rw[←hs];exact A9 5 b0 b1 (by decide) rfl
 have s0:0≤s:=by omega
 have s1:s<32:=by omega
 have HS:=hid hs;clear hs;exact j7
theorem A9s(a b:Int)(a0:0≤a)(a1:a<4294967296)(b0:0≤b)(b1:b<4294967296)(w:World):Calls prog 112 #[.int .i64 10,.int .u32 a,.int .u32 b] w fun e w'=>e= .returned (.int .u32 (M9 10 a b))∧w=w':=by
 have HT:=hid F5;obtain⟨s,hs⟩:∃s,b%32=s:=⟨_,rfl⟩
 have r1:bits .and .u32 b 31=s:=by rw[←hs];exact A9 5 b0 b1 (by decide) rfl
 have s0:0≤s:=by omega
 have s1:s<32:=by omega
 have HS:=hid hs;clear hs;exact j7
theorem A9r(a b:Int)(a0:0≤a)(a1:a<4294967296)(b0:0≤b)(b1:b<4294967296)(w:World):Calls prog 112 #[.int .i64 11,.int .u32 a,.int .u32 b] w fun e w'=>e= .returned (.int .u32 (M9 11 a b))∧w=w':=by
 have HT:=hid F5;obtain⟨s,hs⟩:∃s,b%32=s:=⟨_,rfl⟩
 have r1:bits .and .u32 b 31=s:=by rw[←hs];exact A9 5 b0 b1 (by decide) rfl
 have s0:0≤s:=by omega
 have s1:s<32:=by omega
 have HS:=hid hs;have HD:=hid (fun w=>B2l a b a0 a1 b0 b1 w);clear hs;exact A8d
theorem A9q(a b:Int)(a0:0≤a)(a1:a<4294967296)(b0:0≤b)(b1:b<4294967296)(w:World):Calls prog 112 #[.int .i64 12,.int .u32 a,.int .u32 b] w fun e w'=>e= .returned (.int .u32 (M9 12 a b))∧w=w':=by
 have HT:=hid F5;obtain⟨s,hs⟩:∃s,b%32=s:=⟨_,rfl⟩
 have r1:bits .and .u32 b 31=s:=by rw[←hs];exact A9 5 b0 b1 (by decide) rfl
 have s0:0≤s:=by omega
 have s1:s<32:=by omega
 have HS:=hid hs;have HD:=hid (fun w=>B2k a b a0 a1 b0 b1 w);clear hs;exact A8d
theorem A9p(a b:Int)(a0:0≤a)(a1:a<4294967296)(b0:0≤b)(b1:b<4294967296)(w:World):Calls prog 112 #[.int .i64 13,.int .u32 a,.int .u32 b] w fun e w'=>e= .returned (.int .u32 (M9 13 a b))∧w=w':=by
 have HT:=hid F5;obtain⟨s,hs⟩:∃s,b%32=s:=⟨_,rfl⟩
 have r1:bits .and .u32 b 31=s:=by rw[←hs];exact A9 5 b0 b1 (by decide) rfl
 have s0:0≤s:=by omega
 have s1:s<32:=by omega
 have HS:=hid hs;have HD:=hid (fun w=>B2j a b a0 a1 b0 b1 w);clear hs;exact A8d
theorem A9o(a b:Int)(a0:0≤a)(a1:a<4294967296)(b0:0≤b)(b1:b<4294967296)(w:World):Calls prog 112 #[.int .i64 14,.int .u32 a,.int .u32 b] w fun e w'=>e= .returned (.int .u32 (M9 14 a b))∧w=w':=by
 have HT:=hid F5;obtain⟨s,hs⟩:∃s,b%32=s:=⟨_,rfl⟩
 have r1:bits .and .u32 b 31=s:=by rw[←hs];exact A9 5 b0 b1 (by decide) rfl
 have s0:0≤s:=by omega
 have s1:s<32:=by omega
 have HS:=hid hs;have HD:=hid (fun w=>B2i a b a0 a1 b0 b1 w);clear hs;exact A8d
theorem A9n(a b:Int)(a0:0≤a)(a1:a<4294967296)(b0:0≤b)(b1:b<4294967296)(w:World):Calls prog 112 #[.int .i64 15,.int .u32 a,.int .u32 b] w fun e w'=>e= .returned (.int .u32 (M9 15 a b))∧w=w':=by
 have HT:=hid F5;obtain⟨s,hs⟩:∃s,b%32=s:=⟨_,rfl⟩
 have r1:bits .and .u32 b 31=s:=by rw[←hs];exact A9 5 b0 b1 (by decide) rfl
 have s0:0≤s:=by omega
 have s1:s<32:=by omega
 have HS:=hid hs;clear hs;exact j7
theorem A9m(a b:Int)(a0:0≤a)(a1:a<4294967296)(b0:0≤b)(b1:b<4294967296)(w:World):Calls prog 112 #[.int .i64 16,.int .u32 a,.int .u32 b] w fun e w'=>e= .returned (.int .u32 (M9 16 a b))∧w=w':=by
 have HT:=hid F5;obtain⟨s,hs⟩:∃s,b%32=s:=⟨_,rfl⟩
 have r1:bits .and .u32 b 31=s:=by rw[←hs];exact A9 5 b0 b1 (by decide) rfl
 have s0:0≤s:=by omega
 have s1:s<32:=by omega
 have HS:=hid hs;clear hs;exact j7
theorem A9l(a b:Int)(a0:0≤a)(a1:a<4294967296)(b0:0≤b)(b1:b<4294967296)(w:World):Calls prog 112 #[.int .i64 17,.int .u32 a,.int .u32 b] w fun e w'=>e= .returned (.int .u32 (M9 17 a b))∧w=w':=by
 have HT:=hid F5;obtain⟨s,hs⟩:∃s,b%32=s:=⟨_,rfl⟩
 have r1:bits .and .u32 b 31=s:=by rw[←hs];exact A9 5 b0 b1 (by decide) rfl
 have s0:0≤s:=by omega
 have s1:s<32:=by omega
 have HS:=hid hs;clear hs;exact j7
theorem A9k(a b:Int)(a0:0≤a)(a1:a<4294967296)(b0:0≤b)(b1:b<4294967296)(w:World):Calls prog 112 #[.int .i64 18,.int .u32 a,.int .u32 b] w fun e w'=>e= .returned (.int .u32 (M9 18 a b))∧w=w':=by
 have HT:=hid F5;obtain⟨s,hs⟩:∃s,b%32=s:=⟨_,rfl⟩
 have r1:bits .and .u32 b 31=s:=by rw[←hs];exact A9 5 b0 b1 (by decide) rfl
 have s0:0≤s:=by omega
 have s1:s<32:=by omega
 have HS:=hid hs;clear hs;exact j7
theorem A9j(a b:Int)(a0:0≤a)(a1:a<4294967296)(b0:0≤b)(b1:b<4294967296)(w:World):Calls prog 112 #[.int .i64 19,.int .u32 a,.int .u32 b] w fun e w'=>e= .returned (.int .u32 (M9 19 a b))∧w=w':=by
 have HT:=hid F5;obtain⟨s,hs⟩:∃s,b%32=s:=⟨_,rfl⟩
 have r1:bits .and .u32 b 31=s:=by rw[←hs];exact A9 5 b0 b1 (by decide) rfl
 have s0:0≤s:=by omega
 have s1:s<32:=by omega
 have HS:=hid hs;clear hs;exact j7
theorem A9i(a b:Int)(a0:0≤a)(a1:a<4294967296)(b0:0≤b)(b1:b<4294967296)(w:World):Calls prog 112 #[.int .i64 20,.int .u32 a,.int .u32 b] w fun e w'=>e= .returned (.int .u32 (M9 20 a b))∧w=w':=by
 have HT:=hid F5;obtain⟨s,hs⟩:∃s,b%32=s:=⟨_,rfl⟩
 have r1:bits .and .u32 b 31=s:=by rw[←hs];exact A9 5 b0 b1 (by decide) rfl
 have s0:0≤s:=by omega
 have s1:s<32:=by omega
 have HS:=hid hs;clear hs;exact j7
theorem A9h(a b:Int)(a0:0≤a)(a1:a<4294967296)(b0:0≤b)(b1:b<4294967296)(w:World):Calls prog 112 #[.int .i64 21,.int .u32 a,.int .u32 b] w fun e w'=>e= .returned (.int .u32 (M9 21 a b))∧w=w':=by
 have HT:=hid F5;obtain⟨s,hs⟩:∃s,b%32=s:=⟨_,rfl⟩
 have r1:bits .and .u32 b 31=s:=by rw[←hs];exact A9 5 b0 b1 (by decide) rfl
 have s0:0≤s:=by omega
 have s1:s<32:=by omega
 have HS:=hid hs;clear hs;exact A4b
theorem A9g(a b:Int)(a0:0≤a)(a1:a<4294967296)(b0:0≤b)(b1:b<4294967296)(w:World):Calls prog 112 #[.int .i64 22,.int .u32 a,.int .u32 b] w fun e w'=>e= .returned (.int .u32 (M9 22 a b))∧w=w':=by
 have HT:=hid F5;obtain⟨s,hs⟩:∃s,b%32=s:=⟨_,rfl⟩
 have r1:bits .and .u32 b 31=s:=by rw[←hs];exact A9 5 b0 b1 (by decide) rfl
 have s0:0≤s:=by omega
 have s1:s<32:=by omega
 have HS:=hid hs;clear hs;exact A4b
theorem A9f(a b:Int)(a0:0≤a)(a1:a<4294967296)(b0:0≤b)(b1:b<4294967296)(w:World):Calls prog 112 #[.int .i64 23,.int .u32 a,.int .u32 b] w fun e w'=>e= .returned (.int .u32 (M9 23 a b))∧w=w':=by
 have HT:=hid F5;obtain⟨s,hs⟩:∃s,b%32=s:=⟨_,rfl⟩
 have r1:bits .and .u32 b 31=s:=by rw[←hs];exact A9 5 b0 b1 (by decide) rfl
 have s0:0≤s:=by omega
 have s1:s<32:=by omega
 have HS:=hid hs;clear hs;exact A4b
theorem A2g(o:Int)(o0:0≤o)(o1:o≤23)(a b:Int)(a0:0≤a)(a1:a<4294967296)(b0:0≤b)(b1:b<4294967296)(w:World):Calls prog 112 #[.int .i64 o,.int .u32 a,.int .u32 b] w fun e w'=>e= .returned (.int .u32 (M9 o a b))∧w=w':=by
 rcases(show o=0∨o=1∨o=2∨o=3∨o=4∨o=5∨o=6∨o=7∨o=8∨o=9∨o=10∨o=11∨o=12∨o=13∨o=14∨o=15∨o=16∨o=17∨o=18∨o=19∨o=20∨o=21∨o=22∨o=23 by omega)with rfl|rfl|rfl|rfl|rfl|rfl|rfl|rfl|rfl|rfl|rfl|rfl|rfl|rfl|rfl|rfl|rfl|rfl|rfl|rfl|rfl|rfl|rfl|rfl
 ·exact B2x a b a0 a1 b0 b1 w
 ·exact B2w a b a0 a1 b0 b1 w
 ·exact B2v a b a0 a1 b0 b1 w
 ·exact B2u a b a0 a1 b0 b1 w
 ·exact B2t a b a0 a1 b0 b1 w
 ·exact B2s a b a0 a1 b0 b1 w
 ·exact B2r a b a0 a1 b0 b1 w
 ·exact B2q a b a0 a1 b0 b1 w
 ·exact B2p a b a0 a1 b0 b1 w
 ·exact B2o a b a0 a1 b0 b1 w
 ·exact A9s a b a0 a1 b0 b1 w
 ·exact A9r a b a0 a1 b0 b1 w
 ·exact A9q a b a0 a1 b0 b1 w
 ·exact A9p a b a0 a1 b0 b1 w
 ·exact A9o a b a0 a1 b0 b1 w
 ·exact A9n a b a0 a1 b0 b1 w
 ·exact A9m a b a0 a1 b0 b1 w
 ·exact A9l a b a0 a1 b0 b1 w
 ·exact A9k a b a0 a1 b0 b1 w
 ·exact A9j a b a0 a1 b0 b1 w
 ·exact A9i a b a0 a1 b0 b1 w
 ·exact A9h a b a0 a1 b0 b1 w
 ·exact A9g a b a0 a1 b0 b1 w
 ·exact A9f a b a0 a1 b0 b1 w
def tkR(o a b:Int):Bool:=
 if o=31 then a==b else if o=32 then !(a==b)else if o=33 then decide (wrap32 a<wrap32 b)else if o=34 then decide (wrap32 b≤wrap32 a)else if o=35 then decide (a<b)else decide (b≤a)
theorem A5p(a b:Int)(w:World):Calls prog 115 #[.int .i64 31,.int .u32 a,.int .u32 b] w fun e w'=>e= .returned (.bool (tkR 31 a b))∧w=w':=by
 go_enter func115,ntmps115;go_wp2_with fail
 go_ret;exact⟨rfl,rfl⟩
theorem A5o(a b:Int)(w:World):Calls prog 115 #[.int .i64 32,.int .u32 a,.int .u32 b] w fun e w'=>e= .returned (.bool (tkR 32 a b))∧w=w':=by
 go_enter func115,ntmps115;go_wp2_with fail
 go_ret;exact⟨rfl,rfl⟩
theorem A5n(a b:Int)(w:World):Calls prog 115 #[.int .i64 33,.int .u32 a,.int .u32 b] w fun e w'=>e= .returned (.bool (tkR 33 a b))∧w=w':=by
 go_enter func115,ntmps115;go_wp2_with fail
 go_ret;exact⟨rfl,rfl⟩
theorem A5m(a b:Int)(w:World):Calls prog 115 #[.int .i64 34,.int .u32 a,.int .u32 b] w fun e w'=>e= .returned (.bool (tkR 34 a b))∧w=w':=by
 go_enter func115,ntmps115;go_wp2_with fail
 go_ret;exact⟨rfl,rfl⟩
theorem A5l(a b:Int)(w:World):Calls prog 115 #[.int .i64 35,.int .u32 a,.int .u32 b] w fun e w'=>e= .returned (.bool (tkR 35 a b))∧w=w':=by
 go_enter func115,ntmps115;go_wp2_with fail
 go_ret;exact⟨rfl,rfl⟩
theorem A5k(a b:Int)(w:World):Calls prog 115 #[.int .i64 36,.int .u32 a,.int .u32 b] w fun e w'=>e= .returned (.bool (tkR 36 a b))∧w=w':=by
 go_enter func115,ntmps115;go_wp2_with fail
 go_ret;exact⟨rfl,rfl⟩
theorem A4K(o:Int)(o0:31≤o)(o1:o≤36)(a b:Int)(w:World):Calls prog 115 #[.int .i64 o,.int .u32 a,.int .u32 b] w fun e w'=>e= .returned (.bool (tkR o a b))∧w=w':=by
 rcases(show o=31∨o=32∨o=33∨o=34∨o=35∨o=36 by omega)with rfl|rfl|rfl|rfl|rfl|rfl
 ·exact A5p a b w
 ·exact A5o a b w
 ·exact A5n a b w
 ·exact A5m a b w
 ·exact A5l a b w
 ·exact A5k a b w
def szR(o:Int):Nat:=if o=25∨o=28 then 1 else if o=26∨o=29 then 2 else 4
theorem A8T(w:World):Calls prog 113 #[.int .i64 25] w fun e w'=>e= .returned (.int .i64 (szR 25:Nat))∧w=w':=by
 go_enter func113,ntmps113;go_wp2_with fail
 go_ret;exact⟨rfl,rfl⟩
theorem A8S(w:World):Calls prog 113 #[.int .i64 26] w fun e w'=>e= .returned (.int .i64 (szR 26:Nat))∧w=w':=by
 go_enter func113,ntmps113;go_wp2_with fail
 go_ret;exact⟨rfl,rfl⟩
theorem A8R(w:World):Calls prog 113 #[.int .i64 27] w fun e w'=>e= .returned (.int .i64 (szR 27:Nat))∧w=w':=by
 go_enter func113,ntmps113;go_wp2_with fail
 go_ret;exact⟨rfl,rfl⟩
theorem A8Q(w:World):Calls prog 113 #[.int .i64 28] w fun e w'=>e= .returned (.int .i64 (szR 28:Nat))∧w=w':=by
 go_enter func113,ntmps113;go_wp2_with fail
 go_ret;exact⟨rfl,rfl⟩
theorem A8P(w:World):Calls prog 113 #[.int .i64 29] w fun e w'=>e= .returned (.int .i64 (szR 29:Nat))∧w=w':=by
 go_enter func113,ntmps113;go_wp2_with fail
 go_ret;exact⟨rfl,rfl⟩
theorem A8O(w:World):Calls prog 113 #[.int .i64 30] w fun e w'=>e= .returned (.int .i64 (szR 30:Nat))∧w=w':=by
 go_enter func113,ntmps113;go_wp2_with fail
 go_ret;exact⟨rfl,rfl⟩
theorem A1f(o:Int)(o0:25≤o)(o1:o≤30)(w:World):Calls prog 113 #[.int .i64 o] w fun e w'=>e= .returned (.int .i64 (szR o:Nat))∧w=w':=by
 rcases(show o=25∨o=26∨o=27∨o=28∨o=29∨o=30 by omega)with rfl|rfl|rfl|rfl|rfl|rfl
 ·exact A8T w
 ·exact A8S w
 ·exact A8R w
 ·exact A8Q w
 ·exact A8P w
 ·exact A8O w
structure VM(B M r:Nat)(mv:Value)(c:Mac)(w:World):Prop where
 m:CellsAt w M (B4 c mv++[.map (some r)])
 v:MemO B w mv c.m
 d:DecIs w r 39
 rl:c.r.length=32
 rb:∀k,0≤c.r.getD k 0∧c.r.getD k 0<4294967296
 ab:0≤c.a∧c.a<4294967296
 mb:Byt c.m
 ml:c.m.length≤32768
 n1:mv.ownBlock≠some M
 n2:mv.ownBlock≠some r
 n3:M≠r
 n4:B≤M
 n5:B≤r
section
variable {B M r : Nat} {mv : Value} {c : Mac} {w w' : World}
theorem VM.ltM(h:VM B M r mv c w):M<w.heap.size:=h.m.lt (by simp)
theorem VM.below(h:VM B M r mv c w)(hb:Below w.heap.size w w'):VM B M r mv c w':=
 {h with m:=h.m.block (hb.block M h.ltM),v:=h.v.below hb,d:=h.d.below hb}
theorem VM.len(h:VM B M r mv c w):(B4 c mv).length=36:=B8 h.rl mv
theorem VM.tailAt(h:VM B M r mv c w)(k:Nat)(v:Value)(hv:([.int .i64 c.f,.int .u32 c.a,mv,.int .i64 c.e,.map (some r)]:List Value)[k]? =some v):w.cell? ⟨M,32+k,none⟩=some v∧w.frozen? ⟨M,32+k,none⟩=false:=by
 refine h.m (32+k) v ?_;unfold B4;rw[List.append_assoc,List.getElem?_append_right (by simp[h.rl])];simp only[List.length_map,h.rl,Nat.add_sub_cancel_left];exact hv
theorem VM.cells(h:VM B M r mv c w):(w.cell? ⟨M,33,none⟩=some (.int .u32 c.a)∧w.frozen? ⟨M,33,none⟩=false)∧w.cell? ⟨M,34,none⟩=some mv∧(w.cell? ⟨M,35,none⟩=some (.int .i64 c.e)∧w.frozen? ⟨M,35,none⟩=false)∧w.cell? ⟨M,36,none⟩=some (.map (some r)):=
 ⟨h.tailAt 1 _ rfl,(h.tailAt 2 _ rfl).1,h.tailAt 3 _ rfl,(h.tailAt 4 _ rfl).1⟩
theorem VM.reg(h:VM B M r mv c w){d:Nat}(hd:d<32):w.cell? ⟨M,d,none⟩=some (.int .u32 (c.r.getD d 0))∧w.frozen? ⟨M,d,none⟩=false:=by
 refine h.m d _ ?_;have hd':d<c.r.length:=by rw[h.rl];exact hd
 unfold B4;rw[List.append_assoc,List.getElem?_append_left (by simpa using hd'),List.getElem?_map,List.getElem?_eq_getElem hd',List.getD_eq_getElem?_getD,List.getElem?_eq_getElem hd'];rfl
theorem VM.shape(h:VM B M r mv c w):∃a k,mv= .slice a c.m.length k∧c.m.length≤k:=by
 rcases h.v with⟨e,e2⟩|⟨D,cap,e,h1,h2,h5,h6⟩
 ·exact⟨none,0,by rw[e2,e];rfl,by rw[e];exact Nat.le_refl _⟩
 ·exact⟨_,_,e,h1⟩
theorem VM.whole(h:VM B M r mv c w)(h0:0<c.m.length):∃D cap,mv= .slice (some ⟨D,0,none⟩) c.m.length cap∧c.m.length≤cap∧D≠M∧D≠r∧B≤D∧OInts .u8 w D c.m:=by
 rcases h.v with⟨e,_⟩|⟨D,cap,e,h1,h2,h5,h6⟩
 ·rw[e]at h0;exact absurd h0 (by simp)
 ·refine⟨D,cap,e,h1,fun hh=>h.n1 (by rw[e,hh];rfl),fun hh=>h.n2 (by rw[e,hh];rfl),h5,h6⟩
theorem DecIs.set{n b o:Nat}{v:Value}(h:DecIs w r n)(hb:b≠r):DecIs (w.setCell ⟨b,o,none⟩ v) r n:=by
 obtain⟨h0,h1,h2,h3⟩:=h;refine⟨by rw[World.size_setCell];exact h0,?_,h2,h3⟩;rw[←h1];unfold Q1;rw[Below.heap_setCell w ⟨b,o,none⟩ v r (fun e=>hb e.symm)]
theorem VM.setAny(h:VM B M r mv c w)(k:Nat)(u:Value)(c':Mac)(hk:k<36)(e:(B4 c mv).set k u=B4 c' mv)(hm:c'.m=c.m)(hr:c'.r.length=32)(hb:∀k,0≤c'.r.getD k 0∧c'.r.getD k 0<4294967296)(ha:0≤c'.a∧c'.a<4294967296):VM B M r mv c' (w.setCell ⟨M,k,none⟩ u):=by
 have hs:=h.m.set (k:=k) (by rw[List.length_append,h.len];simp;omega) u;rw[List.set_append_left _ _ (by rw[h.len];exact hk),e]at hs;refine{m:=hs,v:=?_,d:=h.d.set h.n3,rl:=hr,rb:=hb,ab:=ha,mb:=by rw[hm];exact h.mb,ml:=by rw[hm];exact h.ml,n1:=h.n1,n2:=h.n2,n3:=h.n3,n4:=h.n4,n5:=h.n5};rw[hm];exact h.v.imp id fun⟨D,cap,e,h1,h2,h5,h6⟩=>⟨D,cap,e,h1,h2,h5,h6.setO (fun hh=>h.n1 (by rw[e,hh];rfl)) u⟩
theorem A4l{c:Mac}(h:c.r.length=32)(mv:Value)(a:Int):(B4 c mv).set 33 (.int .u32 a)=B4 {c with a:=a} mv:=by
 unfold B4;rw[List.set_append_right _ _ (by simp[h])];simp[h]
theorem VM.setE(h:VM B M r mv c w)(n:Int):VM B M r mv {c with e:=n} (w.setCell ⟨M,35,none⟩ (.int .i64 n)):=h.setAny 35 _ {c with e:=n} (by decide) (A0Y h.rl mv n) rfl h.rl h.rb h.ab
theorem VM.setA(h:VM B M r mv c w){n:Int}(hn:0≤n∧n<4294967296):VM B M r mv {c with a:=n} (w.setCell ⟨M,33,none⟩ (.int .u32 n)):=h.setAny 33 _ {c with a:=n} (by decide) (A4l h.rl mv n) rfl h.rl h.rb hn
theorem VM.setR(h:VM B M r mv c w){d:Nat}(hd:d<32){n:Int}(hn:0≤n∧n<4294967296):VM B M r mv {c with r:=c.r.set d n} (w.setCell ⟨M,d,none⟩ (.int .u32 n)):=by
 have hd':d<c.r.length:=by rw[h.rl];exact hd
 refine h.setAny d _ {c with r:=c.r.set d n} (by omega) ?_ rfl (by simp[h.rl]) (fun k=>?_) h.ab
 ·unfold B4;rw[List.set_append_left _ _ (by simpa using hd'),List.map_set]
 ·show 0≤(c.r.set d n).getD k 0∧_
  by_cases e:d=k
  ·subst e;rw[List.getD_eq_getElem?_getD,List.getElem?_set_self hd'];exact hn
  ·rw[List.getD_eq_getElem?_getD,List.getElem?_set_ne e,←List.getD_eq_getElem?_getD];exact h.rb k
theorem VM.setM1(h:VM B M r mv c w){D cap:Nat}(hmv:mv= .slice (some ⟨D,0,none⟩) c.m.length cap){q:Nat}{y:Int}(hq:q<c.m.length)(hy:0≤y∧y<256):VM B M r mv {c with m:=c.m.set q y} (w.setCell ⟨D,q,none⟩ (.int .u8 y)):=by
 obtain⟨D',cap',e,h1,h2,h3,h5,h6⟩:=h.whole (by omega);have e2:=hmv.symm.trans e;injection e2 with e3 e4 e5
 injection e3 with e6
 injection e6 with e7
 subst e7;refine{m:=h.m.other h2.symm _,v:=Or.inr ⟨D,cap',?_,?_,?_,h5,h6.set hq y⟩,d:=h.d.set h3,rl:=h.rl,rb:=h.rb,ab:=h.ab,ml:=by simpa using h.ml,mb:=fun k=>?_,n1:=h.n1,n2:=h.n2,n3:=h.n3,n4:=h.n4,n5:=h.n5}
 ·rw[e];simp
 ·simpa using h1
 ·rcases h.v with⟨e0,_⟩|⟨D2,cap2,e8,_,h9,_⟩
  ·rw[e0]at hq;exact absurd hq (by simp)
  ·have e9:=e.symm.trans e8;injection e9 with _ _ e10
   rw[e10];exact h9
 ·show 0≤(c.m.set q y).getD k 0∧_
  by_cases ek:q=k
  ·subst ek;rw[List.getD_eq_getElem?_getD,List.getElem?_set_self hq];exact hy
  ·rw[List.getD_eq_getElem?_getD,List.getElem?_set_ne ek,←List.getD_eq_getElem?_getD];exact h.mb k
end
set_option maxHeartbeats 2000000 in
theorem Q6{B M r:Nat}{mv:Value}{c:Mac}(k n:Nat)(w:World)(h:VM B M r mv c w)(hk:k<4294967296)(hn:n≤4):Calls prog 156 #[.pointer (some ⟨M,0,none⟩),.int .u32 (k:Int),.int .i64 (n:Int)] w fun e w'=>e= .returned (.tuple #[.int .i64 (k:Int),.bool (decide (k+n≤c.m.length))])∧Dr w w':=by
 obtain⟨-,c34,-,-⟩:=h.cells;obtain⟨a,q,rfl,hq⟩:=h.shape;have hl:=h.ml;have hM:=h.ltM;have w1:IntKind.i64.wrap (k:Int)=(k:Int):=by rw[IntWalk.i64_left];exact IntWalk.wrap64_in _ (by omega)
 have w2:IntKind.i64.wrap ((k:Int)+(n:Int))=(k:Int)+n:=by rw[IntWalk.i64_left];exact IntWalk.wrap64_in _ (by omega)
 have e1:decide ((k:Int)+n≤(c.m.length:Int))=decide (k+n≤c.m.length):=by congr 1;simp;omega
 have hk2:(k:Int)<4294967296:=by omega
 clear h hl hk;go_enter func156,ntmps156;go_upto_region 2 with fail
 go_quiet(fail)
 go_wp2_with fail
 go_ret2
 exact⟨by rw[←e1];rfl,⟨_,rfl⟩⟩
end Go.Proofs.YtajljbmeaeeknaaGreat
namespace Go.Proofs.YtajljbmeaeeknaaGreat
open Go.RowKit Go.Maps
set_option linter.unusedVariables false
set_option linter.unusedSimpArgs false
theorem B1J{p:Prop}(h:p:=by
 go_enter func110,ntmps110;go_wp2_with(go_at_call 156;(with_reducible refine CW.out.mono ?_);rintro e wa ⟨rfl,hdr⟩;have HDR:=hid hdr;clear hdr)
 go_ret2
 exact⟨rfl,HDR.out⟩
 ):p:=h
def Y6(m:List Int)(k n:Nat):Int:=
 if n=1 then m.getD k 0 else if n=2 then m.getD k 0+m.getD (k+1) 0*256 else w4 m k
theorem B1y{m:List Int}(h:Byt m)(k n:Nat):0≤Y6 m k n∧Y6 m k n<4294967296:=by
 have h0:=h k;have h1:=h (k+1);have h2:=Q9 h k;unfold Y6
 split
 ·omega
 ·split<;>omega
def ldP(m:List Int)(k n:Nat):Value:=.tuple (if k+n≤m.length then#[.int .u32 (Y6 m k n),.bool true]else#[.int .u32 0,.bool false])
set_option maxHeartbeats 2000000 in
theorem B1u{B M r:Nat}{mv:Value}{c:Mac}(k:Nat)(w:World)(h:VM B M r mv c w)(hk:k<4294967296):Calls prog 110 #[.pointer (some ⟨M,0,none⟩),.int .u32 (k:Int),.int .i64 1] w fun e w'=>e= .returned (ldP c.m k 1)∧Dr w w':=by
 have CW:Hid (Calls prog 156 #[.pointer (some ⟨M,0,none⟩),.int .u32 (k:Int),.int .i64 1] w fun e w'=>e= .returned (.tuple #[.int .i64 (k:Int),.bool (decide (k+1≤c.m.length))])∧Dr w w'):=hid (Q6 k 1 w h hk (by decide));have H:=hid h;by_cases hl:k+1≤c.m.length
 ·rw[decide_eq_true hl]at CW;have e:ldP c.m k 1= .tuple #[.int .u32 (Y6 c.m k 1),.bool true]:=by unfold ldP;rw[if_pos hl]
  rw[e];clear e;obtain⟨D,cap,hmv,hcap,hD1,-,-,ho⟩:=h.whole (by omega);have hml:=h.ml;obtain⟨-,c34,-,-⟩:=h.cells;have hM:=h.ltM;have hDl:=ho.1;rw[hmv]at c34;have m0:w.cell? ⟨D,k,none⟩=some (.int .u8 (c.m.getD (k) 0)):=ho.cell (by omega);obtain⟨b00,b01⟩:=h.mb (k);obtain⟨V,hV⟩:∃V,Y6 c.m k 1=V:=⟨_,rfl⟩
  rw[hV];unfold Y6 w4 at hV;simp only[Nat.reduceEqDiff,if_true,if_false]at hV;generalize c.m.getD (k) 0=y0 at*
  have r0:bits .or .u32 0 y0=y0:=by
   have:=M0 (a:=0) (b:=y0) (h:=0) (w:=0) 0 8 (m:=1) (n:=256) (z:=256) rfl rfl rfl (by omega) (by omega) (by omega) (by omega) (by omega) (by omega) (by omega);simpa using this
  have HV:Hid (y0=V):=hid (by omega);have k0:(0:Int)≤(k:Int):=by omega
  have j0:(k:Int)<(c.m.length:Int):=by omega
  clear hV h ho hmv hl;go_enter func110,ntmps110;go_wp2_with(go_at_call 156;(with_reducible refine CW.out.mono ?_);rintro e wa ⟨rfl,hdr⟩;have c34':=A0 (hdr.below w.heap.size) hM c34;have m0':=A0 (hdr.below w.heap.size) hDl m0;have HDR:=hid hdr;clear hdr c34 m0)
  go_loopw[10,11,22] (fun a _ i wr=>((i= .int .i64 0∧a= .int .u32 0)∨(i= .int .i64 1∧a= .int .u32 y0))∧wa=wr) (fun _ _ i _=>1-(intOf i).toNat)
  case atStart=>exact⟨.inl ⟨rfl,rfl⟩,rfl⟩
  case round=>
   obtain⟨hrel,rfl⟩:=hrel;rcases hrel with⟨rfl,rfl⟩|⟨rfl,rfl⟩
   ·go_wp2_with fail
    go_roundw
    case rel=>exact⟨.inr (⟨rfl,rfl⟩),trivial⟩
    case measure=>simp[intOf]
   ·go_wp2_with fail
    go_ret2
    exact⟨by have e:=HV.out;subst e;rfl,HDR.out⟩
 ·rw[decide_eq_false hl]at CW;have e:ldP c.m k 1= .tuple #[.int .u32 0,.bool false]:=by unfold ldP;rw[if_neg hl]
  rw[e];clear e hl h;exact B1J
set_option maxHeartbeats 2000000 in
theorem B1t{B M r:Nat}{mv:Value}{c:Mac}(k:Nat)(w:World)(h:VM B M r mv c w)(hk:k<4294967296):Calls prog 110 #[.pointer (some ⟨M,0,none⟩),.int .u32 (k:Int),.int .i64 2] w fun e w'=>e= .returned (ldP c.m k 2)∧Dr w w':=by
 have CW:Hid (Calls prog 156 #[.pointer (some ⟨M,0,none⟩),.int .u32 (k:Int),.int .i64 2] w fun e w'=>e= .returned (.tuple #[.int .i64 (k:Int),.bool (decide (k+2≤c.m.length))])∧Dr w w'):=hid (Q6 k 2 w h hk (by decide));have H:=hid h;by_cases hl:k+2≤c.m.length
 ·rw[decide_eq_true hl]at CW;have e:ldP c.m k 2= .tuple #[.int .u32 (Y6 c.m k 2),.bool true]:=by unfold ldP;rw[if_pos hl]
  rw[e];clear e;obtain⟨D,cap,hmv,hcap,hD1,-,-,ho⟩:=h.whole (by omega);have hml:=h.ml;obtain⟨-,c34,-,-⟩:=h.cells;have hM:=h.ltM;have hDl:=ho.1;rw[hmv]at c34;have m0:w.cell? ⟨D,k,none⟩=some (.int .u8 (c.m.getD (k) 0)):=ho.cell (by omega);obtain⟨b00,b01⟩:=h.mb (k);have m1:w.cell? ⟨D,k+1,none⟩=some (.int .u8 (c.m.getD (k+1) 0)):=ho.cell (by omega);obtain⟨b10,b11⟩:=h.mb (k+1);obtain⟨V,hV⟩:∃V,Y6 c.m k 2=V:=⟨_,rfl⟩
  rw[hV];unfold Y6 w4 at hV;simp only[Nat.reduceEqDiff,if_true,if_false]at hV;generalize c.m.getD (k) 0=y0 at*
  generalize c.m.getD (k+1) 0=y1 at*
  have r0:bits .or .u32 0 y0=y0:=by
   have:=M0 (a:=0) (b:=y0) (h:=0) (w:=0) 0 8 (m:=1) (n:=256) (z:=256) rfl rfl rfl (by omega) (by omega) (by omega) (by omega) (by omega) (by omega) (by omega);simpa using this
  obtain⟨A1,hA1⟩:∃x,y0+y1*256=x:=⟨_,rfl⟩
  have r1:bits .or .u32 y0 (y1*256)=A1:=by rw[←hA1];exact B9 8 rfl (by omega) (by omega) (by omega) (by omega)
  have HV:Hid (A1=V):=hid (by omega);have k0:(0:Int)≤(k:Int):=by omega
  have j0:(k:Int)<(c.m.length:Int):=by omega
  have kw1:IntKind.i64.wrap ((k:Int)+1)=(k:Int)+1:=by rw[IntWalk.i64_left];exact IntWalk.wrap64_in _ (by omega)
  have kn1:((k:Int)+1).toNat=k+1:=by omega
  have k1:(0:Int)≤(k:Int)+1:=by omega
  have j1:(k:Int)+1<(c.m.length:Int):=by omega
  clear hA1 hV h ho hmv hl;go_enter func110,ntmps110;go_wp2_with(go_at_call 156;(with_reducible refine CW.out.mono ?_);rintro e wa ⟨rfl,hdr⟩;have c34':=A0 (hdr.below w.heap.size) hM c34;have m0':=A0 (hdr.below w.heap.size) hDl m0;have m1':=A0 (hdr.below w.heap.size) hDl m1;have HDR:=hid hdr;clear hdr c34 m0 m1)
  go_loopw[10,11,22] (fun a _ i wr=>((i= .int .i64 0∧a= .int .u32 0)∨(i= .int .i64 1∧a= .int .u32 y0)∨(i= .int .i64 2∧a= .int .u32 A1))∧wa=wr) (fun _ _ i _=>2-(intOf i).toNat)
  case atStart=>exact⟨.inl ⟨rfl,rfl⟩,rfl⟩
  case round=>
   obtain⟨hrel,rfl⟩:=hrel;rcases hrel with⟨rfl,rfl⟩|⟨rfl,rfl⟩|⟨rfl,rfl⟩
   ·go_wp2_with fail
    go_roundw
    case rel=>exact⟨.inr (.inl ⟨rfl,rfl⟩),trivial⟩
    case measure=>simp[intOf]
   ·go_wp2_with fail
    go_roundw
    case rel=>exact⟨.inr (.inr (⟨rfl,rfl⟩)),trivial⟩
    case measure=>simp[intOf]
   ·go_wp2_with fail
    go_ret2
    exact⟨by have e:=HV.out;subst e;rfl,HDR.out⟩
 ·rw[decide_eq_false hl]at CW;have e:ldP c.m k 2= .tuple #[.int .u32 0,.bool false]:=by unfold ldP;rw[if_neg hl]
  rw[e];clear e hl h;exact B1J
set_option maxHeartbeats 2000000 in
theorem B1s{B M r:Nat}{mv:Value}{c:Mac}(k:Nat)(w:World)(h:VM B M r mv c w)(hk:k<4294967296):Calls prog 110 #[.pointer (some ⟨M,0,none⟩),.int .u32 (k:Int),.int .i64 4] w fun e w'=>e= .returned (ldP c.m k 4)∧Dr w w':=by
 have CW:Hid (Calls prog 156 #[.pointer (some ⟨M,0,none⟩),.int .u32 (k:Int),.int .i64 4] w fun e w'=>e= .returned (.tuple #[.int .i64 (k:Int),.bool (decide (k+4≤c.m.length))])∧Dr w w'):=hid (Q6 k 4 w h hk (by decide));have H:=hid h;by_cases hl:k+4≤c.m.length
 ·rw[decide_eq_true hl]at CW;have e:ldP c.m k 4= .tuple #[.int .u32 (Y6 c.m k 4),.bool true]:=by unfold ldP;rw[if_pos hl]
  rw[e];clear e;obtain⟨D,cap,hmv,hcap,hD1,-,-,ho⟩:=h.whole (by omega);have hml:=h.ml;obtain⟨-,c34,-,-⟩:=h.cells;have hM:=h.ltM;have hDl:=ho.1;rw[hmv]at c34;have m0:w.cell? ⟨D,k,none⟩=some (.int .u8 (c.m.getD (k) 0)):=ho.cell (by omega);obtain⟨b00,b01⟩:=h.mb (k);have m1:w.cell? ⟨D,k+1,none⟩=some (.int .u8 (c.m.getD (k+1) 0)):=ho.cell (by omega);obtain⟨b10,b11⟩:=h.mb (k+1);have m2:w.cell? ⟨D,k+2,none⟩=some (.int .u8 (c.m.getD (k+2) 0)):=ho.cell (by omega);obtain⟨b20,b21⟩:=h.mb (k+2);have m3:w.cell? ⟨D,k+3,none⟩=some (.int .u8 (c.m.getD (k+3) 0)):=ho.cell (by omega);obtain⟨b30,b31⟩:=h.mb (k+3);obtain⟨V,hV⟩:∃V,Y6 c.m k 4=V:=⟨_,rfl⟩
  rw[hV];unfold Y6 w4 at hV;simp only[Nat.reduceEqDiff,if_true,if_false]at hV;generalize c.m.getD (k) 0=y0 at*
  generalize c.m.getD (k+1) 0=y1 at*
  generalize c.m.getD (k+2) 0=y2 at*
  generalize c.m.getD (k+3) 0=y3 at*
  have r0:bits .or .u32 0 y0=y0:=by
   have:=M0 (a:=0) (b:=y0) (h:=0) (w:=0) 0 8 (m:=1) (n:=256) (z:=256) rfl rfl rfl (by omega) (by omega) (by omega) (by omega) (by omega) (by omega) (by omega);simpa using this
  obtain⟨A1,hA1⟩:∃x,y0+y1*256=x:=⟨_,rfl⟩
  have r1:bits .or .u32 y0 (y1*256)=A1:=by rw[←hA1];exact B9 8 rfl (by omega) (by omega) (by omega) (by omega)
  obtain⟨A2,hA2⟩:∃x,A1+y2*65536=x:=⟨_,rfl⟩
  have r2:bits .or .u32 A1 (y2*65536)=A2:=by rw[←hA2];exact B9 16 rfl (by omega) (by omega) (by omega) (by omega)
  obtain⟨A3,hA3⟩:∃x,A2+y3*16777216=x:=⟨_,rfl⟩
  have r3:bits .or .u32 A2 (y3*16777216)=A3:=by rw[←hA3];exact B9 24 rfl (by omega) (by omega) (by omega) (by omega)
  have HV:Hid (A3=V):=hid (by omega);have k0:(0:Int)≤(k:Int):=by omega
  have j0:(k:Int)<(c.m.length:Int):=by omega
  have kw1:IntKind.i64.wrap ((k:Int)+1)=(k:Int)+1:=by rw[IntWalk.i64_left];exact IntWalk.wrap64_in _ (by omega)
  have kn1:((k:Int)+1).toNat=k+1:=by omega
  have k1:(0:Int)≤(k:Int)+1:=by omega
  have j1:(k:Int)+1<(c.m.length:Int):=by omega
  have kw2:IntKind.i64.wrap ((k:Int)+2)=(k:Int)+2:=by rw[IntWalk.i64_left];exact IntWalk.wrap64_in _ (by omega)
  have kn2:((k:Int)+2).toNat=k+2:=by omega
  have k2:(0:Int)≤(k:Int)+2:=by omega
  have j2:(k:Int)+2<(c.m.length:Int):=by omega
  have kw3:IntKind.i64.wrap ((k:Int)+3)=(k:Int)+3:=by rw[IntWalk.i64_left];exact IntWalk.wrap64_in _ (by omega)
  have kn3:((k:Int)+3).toNat=k+3:=by omega
  have k3:(0:Int)≤(k:Int)+3:=by omega
  have j3:(k:Int)+3<(c.m.length:Int):=by omega
  clear hA1 hA2 hA3 hV h ho hmv hl;go_enter func110,ntmps110;go_wp2_with(go_at_call 156;(with_reducible refine CW.out.mono ?_);rintro e wa ⟨rfl,hdr⟩;have c34':=A0 (hdr.below w.heap.size) hM c34;have m0':=A0 (hdr.below w.heap.size) hDl m0;have m1':=A0 (hdr.below w.heap.size) hDl m1;have m2':=A0 (hdr.below w.heap.size) hDl m2;have m3':=A0 (hdr.below w.heap.size) hDl m3;have HDR:=hid hdr;clear hdr c34 m0 m1 m2 m3)
  go_loopw[10,11,22] (fun a _ i wr=>((i= .int .i64 0∧a= .int .u32 0)∨(i= .int .i64 1∧a= .int .u32 y0)∨(i= .int .i64 2∧a= .int .u32 A1)∨(i= .int .i64 3∧a= .int .u32 A2)∨(i= .int .i64 4∧a= .int .u32 A3))∧wa=wr) (fun _ _ i _=>4-(intOf i).toNat)
  case atStart=>exact⟨.inl ⟨rfl,rfl⟩,rfl⟩
  case round=>
   obtain⟨hrel,rfl⟩:=hrel;rcases hrel with⟨rfl,rfl⟩|⟨rfl,rfl⟩|⟨rfl,rfl⟩|⟨rfl,rfl⟩|⟨rfl,rfl⟩
   ·go_wp2_with fail
    go_roundw
    case rel=>exact⟨.inr (.inl ⟨rfl,rfl⟩),trivial⟩
    case measure=>simp[intOf]
   ·go_wp2_with fail
    go_roundw
    case rel=>exact⟨.inr (.inr (.inl ⟨rfl,rfl⟩)),trivial⟩
    case measure=>simp[intOf]
   ·go_wp2_with fail
    go_roundw
    case rel=>exact⟨.inr (.inr (.inr (.inl ⟨rfl,rfl⟩))),trivial⟩
    case measure=>simp[intOf]
   ·go_wp2_with fail
    go_roundw
    case rel=>exact⟨.inr (.inr (.inr (.inr (⟨rfl,rfl⟩)))),trivial⟩
    case measure=>simp[intOf]
   ·go_wp2_with fail
    go_ret2
    exact⟨by have e:=HV.out;subst e;rfl,HDR.out⟩
 ·rw[decide_eq_false hl]at CW;have e:ldP c.m k 4= .tuple #[.int .u32 0,.bool false]:=by unfold ldP;rw[if_neg hl]
  rw[e];clear e hl h;exact B1J
theorem J8{B M r:Nat}{mv:Value}{c:Mac}(k:Nat)(w:World)(h:VM B M r mv c w)(hk:k<4294967296)(n:Nat)(hn:n=1∨n=2∨n=4):Calls prog 110 #[.pointer (some ⟨M,0,none⟩),.int .u32 (k:Int),.int .i64 (n:Int)] w fun e w'=>e= .returned (ldP c.m k n)∧Dr w w':=by
 rcases hn with rfl|rfl|rfl
 ·exact B1u k w h hk
 ·exact B1t k w h hk
 ·exact B1s k w h hk
end Go.Proofs.YtajljbmeaeeknaaGreat
