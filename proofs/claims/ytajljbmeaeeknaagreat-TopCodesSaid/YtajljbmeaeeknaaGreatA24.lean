/- -/
import Derived.Test.YtajljbmeaeeknaaGreatA22
import Derived.Test.YtajljbmeaeeknaaGreatA23
open Go.Proofs.Tryz
open Go.Lib (hid)
set_option maxHeartbeats 1000000
set_option maxRecDepth 100000
namespace Go.Proofs.YtajljbmeaeeknaaGreat
open Go.RowKit Go.Maps
set_option linter.unusedVariables false
set_option linter.unusedSimpArgs false
theorem q1z{p:Prop}(h:p:=by
 refine tk 0 ?_;refine tk 1 ?_;refine tk 2 ?_;refine tk 3 ?_;refine tk 4 ?_;refine tk 5 ?_;refine rd1 6 (fun K hK=>?_)
 (go_simp;first|((go_at_call 160;with_reducible refine(CG.out _ (by first|assumption|exact XC.drew (by assumption)|exact XC.drewN (by assumption) _)).mono ?_);rintro e w1 ⟨rfl,hm1⟩)|((go_at_call 164;with_reducible refine(CT.out _ (by first|assumption|exact XC.drew (by assumption)|exact XC.drewN (by assumption) _)).mono ?_);rintro e w2 ⟨rfl,hm9⟩))
 refine hK.out _ _ ?_ (fun hHeld=>?_)
 ·(first|exact XC.toS (by assumption)|exact XC.toS (XC.drew (by assumption)))
 clear hK K
 try go_frame
 refine rd1 7 (fun K hK=>?_)
 (go_simp;first|((go_at_call 160;with_reducible refine(CG.out _ (by first|assumption|exact XC.drew (by assumption)|exact XC.drewN (by assumption) _)).mono ?_);rintro e w1 ⟨rfl,hm1⟩)|((go_at_call 164;with_reducible refine(CT.out _ (by first|assumption|exact XC.drew (by assumption)|exact XC.drewN (by assumption) _)).mono ?_);rintro e w2 ⟨rfl,hm9⟩))
 refine hK.out _ _ ?_ (fun hHeld=>?_)
 ·(first|exact XC.toS (by assumption)|exact XC.toS (XC.drew (by assumption)))
 clear hK K
 try go_frame
 refine wpAnyH_done (by kernel_rfl) ?_ _;have hF:=hm9;go_wp2_with fail
 exact bodyPost_end (v:=.tuple #[]) (by simp[results,results116,go_sem]) rfl ⟨rfl,hF.m,hF.ch⟩
 ):p:=h
theorem q6z{p:Prop}(h:p:=by
 refine hK.out _ _ ?_ (fun hHeld=>?_)
 ·(first|exact XC.toS (by assumption)|exact XC.toS (XC.drew (by assumption)))
 clear hK K
 try go_frame
 refine wpAnyH_done (by kernel_rfl) ?_ _;have hF:=hm9;go_wp2_with fail
 exact bodyPost_end (v:=.tuple #[]) (by simp[results,results116,go_sem]) rfl ⟨rfl,hF.m,hF.ch⟩
 ):p:=h
theorem A4c{p:Prop}(h:p:=by
 go_wp2_with(first|((go_at_call 164;with_reducible refine(CT.out _ (by first|assumption|exact XC.drew (by assumption)|exact XC.drewN (by assumption) _)).mono ?_);rintro e w2 ⟨rfl,hm9⟩))
 have hF:=hm9;exact bodyPost_end (v:=.tuple #[]) (by simp[results,results116,go_sem]) rfl ⟨rfl,hF.m,hF.ch⟩
 ):p:=h
theorem A4Y{p:Prop}(h:p:=by
 go_wp2_with fail
 exact bodyPost_end (v:=.tuple #[]) (by simp[results,results116,go_sem]) rfl ⟨rfl,hF.m,hF.ch⟩
 ):p:=h
theorem B1P{p:Prop}(h:p:=by
 go_wp2_with(first|((go_at_call 166;with_reducible refine(CM.out _ (by first|assumption|exact XC.drew (by assumption)|exact XC.drewN (by assumption) _)).mono ?_);rintro e w2 ⟨rfl,hm9⟩))
 have hF:=hm9;exact bodyPost_end (v:=.tuple #[]) (by simp[results,results116,go_sem]) rfl ⟨rfl,hF.m,hF.ch⟩
 ):p:=h
theorem B3g{p:Prop}(h:p:=by
 (go_simp;first|((go_at_call 160;with_reducible refine(CG.out _ (by first|assumption|exact XC.drew (by assumption)|exact XC.drewN (by assumption) _)).mono ?_);rintro e w1 ⟨rfl,hm1⟩)|((go_at_call 159;with_reducible refine(CS.out _ (by first|assumption|exact XC.drew (by assumption)|exact XC.drewN (by assumption) _)).mono ?_);rintro e w2 ⟨rfl,hm9⟩))
 exact q6z
 ):p:=h
theorem B3b{p:Prop}(h:p:=by
 go_wp2_with(first|((go_at_call 168;with_reducible refine(CM.out _ (by first|assumption|exact XC.drew (by assumption)|exact XC.drewN (by assumption) _)).mono ?_);rintro e w2 ⟨rfl,hm9⟩))
 have hF:=hm9;exact bodyPost_end (v:=.tuple #[]) (by simp[results,results116,go_sem]) rfl ⟨rfl,hF.m,hF.ch⟩
 ):p:=h
structure XC(base T M:Nat)(mv:Value)(x:Ins)(z:Int)(B:Nat)(o d s xz xi:Int)(w:World)(fl:Bool)(c:Mac)(wk:World):Prop where
 m:MSt base T M mv x z fl c wk
 b:Box5 wk B o d s xz xi
 nt:B≠T
 nm:B≠M
 no:mv.ownBlock≠some B
 ch:Ch T M mv w wk
section
variable {base T M : Nat} {mv : Value} {x : Ins} {z : Int} {fl fl' : Bool} {c c' : Mac} {B : Nat} {o d s xz xi : Int} {w wk wk' : World}
theorem XC.next(h:XC base T M mv x z B o d s xz xi w fl c wk)(hm:MSt base T M mv x z fl' c' wk')(hc:Ch T M mv wk wk'):XC base T M mv x z B o d s xz xi w fl' c' wk':=
 ⟨hm,(hc.block B h.b.lt h.nt h.nm h.no).trans h.b,h.nt,h.nm,h.no,h.ch.trans hc⟩
theorem XC.drew(h:XC base T M mv x z B o d s xz xi w fl c wk):XC base T M mv x z B o d s xz xi w fl c wk.drew:=h.next h.m.drew (Ch.refl _ _ _ _).drew
theorem XC.drewN(h:XC base T M mv x z B o d s xz xi w fl c wk)(n:Nat):XC base T M mv x z B o d s xz xi w fl c (wk.drewN n):=h.next (h.m.drewN n) ((Ch.refl _ _ _ _).drewN n)
theorem XC.new(h:MSt base T M mv x z fl c w)(o d s xz xi:Int):XC base T M mv x z w.heap.size o d s xz xi w fl c (w.alloc (.cells #[.int .i64 o,.int .i64 d,.int .i64 s,.int .i64 xz,.int .i64 xi] 89)):=
 ⟨h.same ((Below.refl _ _).alloc (Nat.le_refl _) _),Box5.new w o d s xz xi,by have:=h.ltT;omega,by have:=h.ltM;omega,fun e=>by have:=(h.own _ e).2;omega,Ch.of_below ((Below.refl _ _).alloc (Nat.le_refl _) _)⟩
theorem XC.lift{P:Program}{f:Nat}{args:Array Value}{v:Value}(h:XC base T M mv x z B o d s xz xi w fl c wk)(hC:Calls P f args wk fun e w'=>e= .returned v∧MSt base T M mv x z fl' c' w'∧Ch T M mv wk w'):Calls P f args wk fun e w'=>e= .returned v∧XC base T M mv x z B o d s xz xi w fl' c' w':=
 hC.mono fun e w' h'=>⟨h'.1,h.next h'.2.1 h'.2.2⟩
theorem XC.liftD{P:Program}{f:Nat}{args:Array Value}{v:Value}(h:XC base T M mv x z B o d s xz xi w fl c wk)(hC:Calls P f args wk fun e w'=>e= .returned v∧Dr wk w'):Calls P f args wk fun e w'=>e= .returned v∧XC base T M mv x z B o d s xz xi w fl c w':=
 hC.mono fun e w' h'=>⟨h'.1,by obtain⟨n,rfl⟩:=h'.2;exact h.drewN n⟩
def XS(base T M:Nat)(mv:Value)(x:Ins)(z:Int)(B:Nat)(o d s xz xi:Int)(w wk:World):Prop:=∃fl c,XC base T M mv x z B o d s xz xi w fl c wk
theorem XC.toS(h:XC base T M mv x z B o d s xz xi w fl c wk):XS base T M mv x z B o d s xz xi w wk:=⟨_,_,h⟩
theorem XS.ro(h:XS base T M mv x z B o d s xz xi w wk):wk.cell? ⟨B,0,none⟩=some (.int .i64 o):=by obtain⟨_,_,h⟩:=h;exact h.b.cells.1.1
theorem XS.rd(h:XS base T M mv x z B o d s xz xi w wk):wk.cell? ⟨B,1,none⟩=some (.int .i64 d):=by obtain⟨_,_,h⟩:=h;exact h.b.cells.1.2.1
theorem XS.rs(h:XS base T M mv x z B o d s xz xi w wk):wk.cell? ⟨B,2,none⟩=some (.int .i64 s):=by obtain⟨_,_,h⟩:=h;exact h.b.cells.1.2.2.1
theorem XS.rl(h:XS base T M mv x z B o d s xz xi w wk):B<wk.heap.size:=by obtain⟨_,_,h⟩:=h;exact h.b.lt
end
def A3c(o:Option Mac)(fl:Bool):Bool:=match o with|none=>true|some _=>fl
theorem A7t(g:Int)(h0:0≤g)(h1:g<4294967296):bits .xor .u32 (if IntKind.u32.signed=true then -1 else IntKind.u32.max) g=4294967295-g:=by
 have e:(if IntKind.u32.signed=true then -1 else IntKind.u32.max)=(4294967295:Int):=by decide
 rw[e,u32_xor _ _ (by decide) (by decide) h0 h1];obtain⟨n,rfl⟩:=Int.eq_ofNat_of_zero_le h0;have hn:n<2^32:=by omega
 have:((4294967295:Int).toNat^^^((n:Int)).toNat:Nat)=2^32-(n+1):=by
  rw[Int.toNat_natCast,show(4294967295:Int).toNat=2^32-1 by decide];apply Nat.eq_of_testBit_eq;intro i;rw[Nat.testBit_xor,Nat.testBit_two_pow_sub_one,Nat.testBit_two_pow_sub_succ hn];by_cases hi:i<32
  ·simp[hi]
  ·have:n.testBit i=false:=Nat.testBit_lt_two_pow (Nat.lt_of_lt_of_le hn (Nat.pow_le_pow_right (by decide) (by omega)));simp[hi,this]
 rw[this];omega
section
variable {base T M : Nat} {mv : Value} {x : Ins} {z : Int} {fl : Bool} {c : Mac}
theorem B2f(d s:Nat)(hd:d<32)(hs:s<32)(w:World)(h:MSt base T M mv x z fl c w)(hxo:x.o=0)(hxd:x.d=(d:Int))(hxs:x.s=(s:Int)):Calls prog 116 #[.pointer (some ⟨T,0,none⟩)] w fun e w'=>e= .returned (.tuple #[])∧MSt base T M mv x z fl {c with r:=c.r.set d (wrR (c.r.getD d 0) (c.r.getD s 0%pwZ z) z)} w'∧Ch T M mv w w':=by
 have x1:=h.xo;have x2:=h.xd;have x3:=h.xs;have x4:=h.xz;have x5:=h.xi;rw[hxo]at x1;rw[hxd]at x2;rw[hxs]at x3;have hT:=h.ltT;have hne:T≠w.heap.size:=by omega
 have hpw:=D8 h.zz;have a0:0≤(c.r.getD s 0%pwZ z):=Int.emod_nonneg _ (by omega);have a1:(c.r.getD s 0%pwZ z)<4294967296:=by have:=Int.emod_lt_of_pos (c.r.getD s 0) hpw.1;omega
 have CG:=hid (fun wk (hk:XC base T M mv x z w.heap.size 0 (d:Int) (s:Int) x.z x.i w fl c wk)=>XC.liftD hk (H8 s hs wk hk.m));have CS:=hid (fun wk (hk:XC base T M mv x z w.heap.size 0 (d:Int) (s:Int) x.z x.i w fl c wk)=>XC.lift hk (I2 d hd (c.r.getD s 0%pwZ z) wk hk.m a0 a1));generalize(c.r.getD s 0%pwZ z)=g at*
 generalize x.z=xz at*
 generalize x.i=xi at*
 have hX:=XC.new h 0 (d:Int) (s:Int) xz xi;clear h;go_enter func116,ntmps116;go_upto_region 3 with fail
 generalize(w.alloc (.cells #[.int .i64 0,.int .i64 (d:Int),.int .i64 (s:Int),.int .i64 xz,.int .i64 xi] 89))=wa at*
 generalize w.heap.size=B at*
 have rd:∀wk,XS base T M mv x z B 0 (d:Int) (s:Int) xz xi w wk→wk.cell? ⟨B,1,none⟩=some (.int .i64 (d:Int)):=fun wk h=>h.rd
 have rs:∀wk,XS base T M mv x z B 0 (d:Int) (s:Int) xz xi w wk→wk.cell? ⟨B,2,none⟩=some (.int .i64 (s:Int)):=fun wk h=>h.rs
 have ro:∀wk,XS base T M mv x z B 0 (d:Int) (s:Int) xz xi w wk→wk.cell? ⟨B,0,none⟩=some (.int .i64 0):=fun wk h=>h.ro
 have rl:∀wk,XS base T M mv x z B 0 (d:Int) (s:Int) xz xi w wk→B<wk.heap.size:=fun wk h=>h.rl
 refine wp_region_held_drew (S:=(XS base T M mv x z B 0 (d:Int) (s:Int) xz xi w)) (by kernel_rfl) ?_ (fun hHeld=>?_)
 ·(first|exact XC.toS (by assumption)|exact XC.toS (XC.drew (by assumption)))
 refine tk 0 ?_;refine tk 1 ?_;refine tk 2 ?_;refine tk 3 ?_;refine tk 4 ?_;refine tk 5 ?_;refine rd1 6 (fun K hK=>?_)
 (go_simp;first|((go_at_call 160;with_reducible refine(CG.out _ (by first|assumption|exact XC.drew (by assumption)|exact XC.drewN (by assumption) _)).mono ?_);rintro e w1 ⟨rfl,hm1⟩)|((go_at_call 159;with_reducible refine(CS.out _ (by first|assumption|exact XC.drew (by assumption)|exact XC.drewN (by assumption) _)).mono ?_);rintro e w2 ⟨rfl,hm9⟩))
 refine hK.out _ _ ?_ (fun hHeld=>?_)
 ·(first|exact XC.toS (by assumption)|exact XC.toS (XC.drew (by assumption)))
 clear hK K
 try go_frame
 refine rd1 7 (fun K hK=>?_);exact B3g
theorem B2e(d s:Nat)(hd:d<32)(hs:s<32)(w:World)(h:MSt base T M mv x z fl c w)(hxo:x.o=1)(hxd:x.d=(d:Int))(hxs:x.s=(s:Int)):Calls prog 116 #[.pointer (some ⟨T,0,none⟩)] w fun e w'=>e= .returned (.tuple #[])∧MSt base T M mv x z fl {c with r:=c.r.set d (wrR (c.r.getD d 0) (x.i%4294967296) z)} w'∧Ch T M mv w w':=by
 have x1:=h.xo;have x2:=h.xd;have x3:=h.xs;have x4:=h.xz;have x5:=h.xi;rw[hxo]at x1;rw[hxd]at x2;rw[hxs]at x3;have hT:=h.ltT;have hne:T≠w.heap.size:=by omega
 have hpw:=D8 h.zz;have a0:0≤(x.i%4294967296):=Int.emod_nonneg _ (by decide);have a1:(x.i%4294967296)<4294967296:=Int.emod_lt_of_pos _ (by decide);have CS:=hid (fun wk (hk:XC base T M mv x z w.heap.size 1 (d:Int) (s:Int) x.z x.i w fl c wk)=>XC.lift hk (I2 d hd (x.i%4294967296) wk hk.m a0 a1));generalize x.z=xz at*
 generalize x.i=xi at*
 have hX:=XC.new h 1 (d:Int) (s:Int) xz xi;clear h;go_enter func116,ntmps116;go_upto_region 5 with fail
 generalize(w.alloc (.cells #[.int .i64 1,.int .i64 (d:Int),.int .i64 (s:Int),.int .i64 xz,.int .i64 xi] 89))=wa at*
 generalize w.heap.size=B at*
 obtain⟨⟨q0,q1,q2,q3,q4⟩,qf⟩:=hX.b.cells;have ql:=hX.b.lt;go_wp2_with(first|((go_at_call 159;with_reducible refine(CS.out _ (by first|assumption|exact XC.drew (by assumption)|exact XC.drewN (by assumption) _)).mono ?_);rintro e w2 ⟨rfl,hm9⟩))
 have hF:=hm9;exact bodyPost_end (v:=.tuple #[]) (by simp[results,results116,go_sem]) rfl ⟨rfl,hF.m,hF.ch⟩
theorem B2d(d s:Nat)(hd:d<32)(hs:s<32)(w:World)(h:MSt base T M mv x z fl c w)(hxo:x.o=7)(hxd:x.d=(d:Int))(hxs:x.s=(s:Int)):Calls prog 116 #[.pointer (some ⟨T,0,none⟩)] w fun e w'=>e= .returned (.tuple #[])∧MSt base T M mv x z fl {c with r:=c.r.set d (wrR (c.r.getD d 0) (adN (c.r.getD d 0%pwZ z) (c.r.getD s 0%pwZ z) z) z),f:=rsF (adN (c.r.getD d 0%pwZ z) (c.r.getD s 0%pwZ z) z) z (adO (c.r.getD d 0%pwZ z) (c.r.getD s 0%pwZ z) z)} w'∧Ch T M mv w w':=by
 have x1:=h.xo;have x2:=h.xd;have x3:=h.xs;have x4:=h.xz;have x5:=h.xi;rw[hxo]at x1;rw[hxd]at x2;rw[hxs]at x3;have hT:=h.ltT;have hne:T≠w.heap.size:=by omega
 have hpw:=D8 h.zz;have a0:0≤(c.r.getD s 0%pwZ z):=Int.emod_nonneg _ (by omega);have a1:(c.r.getD s 0%pwZ z)<4294967296:=by have:=Int.emod_lt_of_pos (c.r.getD s 0) hpw.1;omega
 have CG:=hid (fun wk (hk:XC base T M mv x z w.heap.size 7 (d:Int) (s:Int) x.z x.i w fl c wk)=>XC.liftD hk (H8 s hs wk hk.m));have CT:=hid (fun wk (hk:XC base T M mv x z w.heap.size 7 (d:Int) (s:Int) x.z x.i w fl c wk)=>XC.lift hk (B3F d hd (c.r.getD d 0%pwZ z) (c.r.getD s 0%pwZ z) wk hk.m hxd rfl a0 a1));generalize(c.r.getD s 0%pwZ z)=g at*
 generalize x.z=xz at*
 generalize x.i=xi at*
 have hX:=XC.new h 7 (d:Int) (s:Int) xz xi;clear h;go_enter func116,ntmps116;go_upto_region 23 with fail
 generalize(w.alloc (.cells #[.int .i64 7,.int .i64 (d:Int),.int .i64 (s:Int),.int .i64 xz,.int .i64 xi] 89))=wa at*
 generalize w.heap.size=B at*
 have rd:∀wk,XS base T M mv x z B 7 (d:Int) (s:Int) xz xi w wk→wk.cell? ⟨B,1,none⟩=some (.int .i64 (d:Int)):=fun wk h=>h.rd
 have rs:∀wk,XS base T M mv x z B 7 (d:Int) (s:Int) xz xi w wk→wk.cell? ⟨B,2,none⟩=some (.int .i64 (s:Int)):=fun wk h=>h.rs
 have ro:∀wk,XS base T M mv x z B 7 (d:Int) (s:Int) xz xi w wk→wk.cell? ⟨B,0,none⟩=some (.int .i64 7):=fun wk h=>h.ro
 have rl:∀wk,XS base T M mv x z B 7 (d:Int) (s:Int) xz xi w wk→B<wk.heap.size:=fun wk h=>h.rl
 refine wp_region_held_drew (S:=(XS base T M mv x z B 7 (d:Int) (s:Int) xz xi w)) (by kernel_rfl) ?_ (fun hHeld=>?_)
 ·(first|exact XC.toS (by assumption)|exact XC.toS (XC.drew (by assumption)))
 exact q1z
theorem B2c(d s:Nat)(hd:d<32)(hs:s<32)(w:World)(h:MSt base T M mv x z fl c w)(hxo:x.o=8)(hxd:x.d=(d:Int))(hxs:x.s=(s:Int)):Calls prog 116 #[.pointer (some ⟨T,0,none⟩)] w fun e w'=>e= .returned (.tuple #[])∧MSt base T M mv x z fl {c with r:=c.r.set d (wrR (c.r.getD d 0) (orW (c.r.getD d 0%pwZ z) (c.r.getD s 0%pwZ z)) z),f:=rsF (orW (c.r.getD d 0%pwZ z) (c.r.getD s 0%pwZ z)) z 0} w'∧Ch T M mv w w':=by
 have x1:=h.xo;have x2:=h.xd;have x3:=h.xs;have x4:=h.xz;have x5:=h.xi;rw[hxo]at x1;rw[hxd]at x2;rw[hxs]at x3;have hT:=h.ltT;have hne:T≠w.heap.size:=by omega
 have hpw:=D8 h.zz;have a0:0≤(c.r.getD s 0%pwZ z):=Int.emod_nonneg _ (by omega);have a1:(c.r.getD s 0%pwZ z)<4294967296:=by have:=Int.emod_lt_of_pos (c.r.getD s 0) hpw.1;omega
 have CG:=hid (fun wk (hk:XC base T M mv x z w.heap.size 8 (d:Int) (s:Int) x.z x.i w fl c wk)=>XC.liftD hk (H8 s hs wk hk.m));have CT:=hid (fun wk (hk:XC base T M mv x z w.heap.size 8 (d:Int) (s:Int) x.z x.i w fl c wk)=>XC.lift hk (B3E d hd (c.r.getD d 0%pwZ z) (c.r.getD s 0%pwZ z) wk hk.m hxd rfl a0 a1));generalize(c.r.getD s 0%pwZ z)=g at*
 generalize x.z=xz at*
 generalize x.i=xi at*
 have hX:=XC.new h 8 (d:Int) (s:Int) xz xi;clear h;go_enter func116,ntmps116;go_upto_region 23 with fail
 generalize(w.alloc (.cells #[.int .i64 8,.int .i64 (d:Int),.int .i64 (s:Int),.int .i64 xz,.int .i64 xi] 89))=wa at*
 generalize w.heap.size=B at*
 have rd:∀wk,XS base T M mv x z B 8 (d:Int) (s:Int) xz xi w wk→wk.cell? ⟨B,1,none⟩=some (.int .i64 (d:Int)):=fun wk h=>h.rd
 have rs:∀wk,XS base T M mv x z B 8 (d:Int) (s:Int) xz xi w wk→wk.cell? ⟨B,2,none⟩=some (.int .i64 (s:Int)):=fun wk h=>h.rs
 have ro:∀wk,XS base T M mv x z B 8 (d:Int) (s:Int) xz xi w wk→wk.cell? ⟨B,0,none⟩=some (.int .i64 8):=fun wk h=>h.ro
 have rl:∀wk,XS base T M mv x z B 8 (d:Int) (s:Int) xz xi w wk→B<wk.heap.size:=fun wk h=>h.rl
 refine wp_region_held_drew (S:=(XS base T M mv x z B 8 (d:Int) (s:Int) xz xi w)) (by kernel_rfl) ?_ (fun hHeld=>?_)
 ·(first|exact XC.toS (by assumption)|exact XC.toS (XC.drew (by assumption)))
 exact q1z
theorem B2b(d s:Nat)(hd:d<32)(hs:s<32)(w:World)(h:MSt base T M mv x z fl c w)(hxo:x.o=9)(hxd:x.d=(d:Int))(hxs:x.s=(s:Int)):Calls prog 116 #[.pointer (some ⟨T,0,none⟩)] w fun e w'=>e= .returned (.tuple #[])∧MSt base T M mv x z fl {c with r:=c.r.set d (wrR (c.r.getD d 0) (anW (c.r.getD d 0%pwZ z) (c.r.getD s 0%pwZ z)) z),f:=rsF (anW (c.r.getD d 0%pwZ z) (c.r.getD s 0%pwZ z)) z 0} w'∧Ch T M mv w w':=by
 have x1:=h.xo;have x2:=h.xd;have x3:=h.xs;have x4:=h.xz;have x5:=h.xi;rw[hxo]at x1;rw[hxd]at x2;rw[hxs]at x3;have hT:=h.ltT;have hne:T≠w.heap.size:=by omega
 have hpw:=D8 h.zz;have a0:0≤(c.r.getD s 0%pwZ z):=Int.emod_nonneg _ (by omega);have a1:(c.r.getD s 0%pwZ z)<4294967296:=by have:=Int.emod_lt_of_pos (c.r.getD s 0) hpw.1;omega
 have CG:=hid (fun wk (hk:XC base T M mv x z w.heap.size 9 (d:Int) (s:Int) x.z x.i w fl c wk)=>XC.liftD hk (H8 s hs wk hk.m));have CT:=hid (fun wk (hk:XC base T M mv x z w.heap.size 9 (d:Int) (s:Int) x.z x.i w fl c wk)=>XC.lift hk (B3D d hd (c.r.getD d 0%pwZ z) (c.r.getD s 0%pwZ z) wk hk.m hxd rfl a0 a1));generalize(c.r.getD s 0%pwZ z)=g at*
 generalize x.z=xz at*
 generalize x.i=xi at*
 have hX:=XC.new h 9 (d:Int) (s:Int) xz xi;clear h;go_enter func116,ntmps116;go_upto_region 23 with fail
 generalize(w.alloc (.cells #[.int .i64 9,.int .i64 (d:Int),.int .i64 (s:Int),.int .i64 xz,.int .i64 xi] 89))=wa at*
 generalize w.heap.size=B at*
 have rd:∀wk,XS base T M mv x z B 9 (d:Int) (s:Int) xz xi w wk→wk.cell? ⟨B,1,none⟩=some (.int .i64 (d:Int)):=fun wk h=>h.rd
 have rs:∀wk,XS base T M mv x z B 9 (d:Int) (s:Int) xz xi w wk→wk.cell? ⟨B,2,none⟩=some (.int .i64 (s:Int)):=fun wk h=>h.rs
 have ro:∀wk,XS base T M mv x z B 9 (d:Int) (s:Int) xz xi w wk→wk.cell? ⟨B,0,none⟩=some (.int .i64 9):=fun wk h=>h.ro
 have rl:∀wk,XS base T M mv x z B 9 (d:Int) (s:Int) xz xi w wk→B<wk.heap.size:=fun wk h=>h.rl
 refine wp_region_held_drew (S:=(XS base T M mv x z B 9 (d:Int) (s:Int) xz xi w)) (by kernel_rfl) ?_ (fun hHeld=>?_)
 ·(first|exact XC.toS (by assumption)|exact XC.toS (XC.drew (by assumption)))
 exact q1z
theorem A9d(d s:Nat)(hd:d<32)(hs:s<32)(w:World)(h:MSt base T M mv x z fl c w)(hxo:x.o=10)(hxd:x.d=(d:Int))(hxs:x.s=(s:Int)):Calls prog 116 #[.pointer (some ⟨T,0,none⟩)] w fun e w'=>e= .returned (.tuple #[])∧MSt base T M mv x z fl {c with r:=c.r.set d (wrR (c.r.getD d 0) (suN (c.r.getD d 0%pwZ z) (c.r.getD s 0%pwZ z) z) z),f:=rsF (suN (c.r.getD d 0%pwZ z) (c.r.getD s 0%pwZ z) z) z (suO (c.r.getD d 0%pwZ z) (c.r.getD s 0%pwZ z) z)} w'∧Ch T M mv w w':=by
 have x1:=h.xo;have x2:=h.xd;have x3:=h.xs;have x4:=h.xz;have x5:=h.xi;rw[hxo]at x1;rw[hxd]at x2;rw[hxs]at x3;have hT:=h.ltT;have hne:T≠w.heap.size:=by omega
 have hpw:=D8 h.zz;have a0:0≤(c.r.getD s 0%pwZ z):=Int.emod_nonneg _ (by omega);have a1:(c.r.getD s 0%pwZ z)<4294967296:=by have:=Int.emod_lt_of_pos (c.r.getD s 0) hpw.1;omega
 have CG:=hid (fun wk (hk:XC base T M mv x z w.heap.size 10 (d:Int) (s:Int) x.z x.i w fl c wk)=>XC.liftD hk (H8 s hs wk hk.m));have CT:=hid (fun wk (hk:XC base T M mv x z w.heap.size 10 (d:Int) (s:Int) x.z x.i w fl c wk)=>XC.lift hk (B0t d hd (c.r.getD d 0%pwZ z) (c.r.getD s 0%pwZ z) wk hk.m hxd rfl a0 a1));generalize(c.r.getD s 0%pwZ z)=g at*
 generalize x.z=xz at*
 generalize x.i=xi at*
 have hX:=XC.new h 10 (d:Int) (s:Int) xz xi;clear h;go_enter func116,ntmps116;go_upto_region 23 with fail
 generalize(w.alloc (.cells #[.int .i64 10,.int .i64 (d:Int),.int .i64 (s:Int),.int .i64 xz,.int .i64 xi] 89))=wa at*
 generalize w.heap.size=B at*
 have rd:∀wk,XS base T M mv x z B 10 (d:Int) (s:Int) xz xi w wk→wk.cell? ⟨B,1,none⟩=some (.int .i64 (d:Int)):=fun wk h=>h.rd
 have rs:∀wk,XS base T M mv x z B 10 (d:Int) (s:Int) xz xi w wk→wk.cell? ⟨B,2,none⟩=some (.int .i64 (s:Int)):=fun wk h=>h.rs
 have ro:∀wk,XS base T M mv x z B 10 (d:Int) (s:Int) xz xi w wk→wk.cell? ⟨B,0,none⟩=some (.int .i64 10):=fun wk h=>h.ro
 have rl:∀wk,XS base T M mv x z B 10 (d:Int) (s:Int) xz xi w wk→B<wk.heap.size:=fun wk h=>h.rl
 refine wp_region_held_drew (S:=(XS base T M mv x z B 10 (d:Int) (s:Int) xz xi w)) (by kernel_rfl) ?_ (fun hHeld=>?_)
 ·(first|exact XC.toS (by assumption)|exact XC.toS (XC.drew (by assumption)))
 exact q1z
theorem A9c(d s:Nat)(hd:d<32)(hs:s<32)(w:World)(h:MSt base T M mv x z fl c w)(hxo:x.o=11)(hxd:x.d=(d:Int))(hxs:x.s=(s:Int)):Calls prog 116 #[.pointer (some ⟨T,0,none⟩)] w fun e w'=>e= .returned (.tuple #[])∧MSt base T M mv x z fl {c with r:=c.r.set d (wrR (c.r.getD d 0) (xoW (c.r.getD d 0%pwZ z) (c.r.getD s 0%pwZ z)) z),f:=rsF (xoW (c.r.getD d 0%pwZ z) (c.r.getD s 0%pwZ z)) z 0} w'∧Ch T M mv w w':=by
 have x1:=h.xo;have x2:=h.xd;have x3:=h.xs;have x4:=h.xz;have x5:=h.xi;rw[hxo]at x1;rw[hxd]at x2;rw[hxs]at x3;have hT:=h.ltT;have hne:T≠w.heap.size:=by omega
 have hpw:=D8 h.zz;have a0:0≤(c.r.getD s 0%pwZ z):=Int.emod_nonneg _ (by omega);have a1:(c.r.getD s 0%pwZ z)<4294967296:=by have:=Int.emod_lt_of_pos (c.r.getD s 0) hpw.1;omega
 have CG:=hid (fun wk (hk:XC base T M mv x z w.heap.size 11 (d:Int) (s:Int) x.z x.i w fl c wk)=>XC.liftD hk (H8 s hs wk hk.m));have CT:=hid (fun wk (hk:XC base T M mv x z w.heap.size 11 (d:Int) (s:Int) x.z x.i w fl c wk)=>XC.lift hk (B0s d hd (c.r.getD d 0%pwZ z) (c.r.getD s 0%pwZ z) wk hk.m hxd rfl a0 a1));generalize(c.r.getD s 0%pwZ z)=g at*
 generalize x.z=xz at*
 generalize x.i=xi at*
 have hX:=XC.new h 11 (d:Int) (s:Int) xz xi;clear h;go_enter func116,ntmps116;go_upto_region 23 with fail
 generalize(w.alloc (.cells #[.int .i64 11,.int .i64 (d:Int),.int .i64 (s:Int),.int .i64 xz,.int .i64 xi] 89))=wa at*
 generalize w.heap.size=B at*
 have rd:∀wk,XS base T M mv x z B 11 (d:Int) (s:Int) xz xi w wk→wk.cell? ⟨B,1,none⟩=some (.int .i64 (d:Int)):=fun wk h=>h.rd
 have rs:∀wk,XS base T M mv x z B 11 (d:Int) (s:Int) xz xi w wk→wk.cell? ⟨B,2,none⟩=some (.int .i64 (s:Int)):=fun wk h=>h.rs
 have ro:∀wk,XS base T M mv x z B 11 (d:Int) (s:Int) xz xi w wk→wk.cell? ⟨B,0,none⟩=some (.int .i64 11):=fun wk h=>h.ro
 have rl:∀wk,XS base T M mv x z B 11 (d:Int) (s:Int) xz xi w wk→B<wk.heap.size:=fun wk h=>h.rl
 refine wp_region_held_drew (S:=(XS base T M mv x z B 11 (d:Int) (s:Int) xz xi w)) (by kernel_rfl) ?_ (fun hHeld=>?_)
 ·(first|exact XC.toS (by assumption)|exact XC.toS (XC.drew (by assumption)))
 exact q1z
theorem A9b(d s:Nat)(hd:d<32)(hs:s<32)(w:World)(h:MSt base T M mv x z fl c w)(hxo:x.o=12)(hxd:x.d=(d:Int))(hxs:x.s=(s:Int)):Calls prog 116 #[.pointer (some ⟨T,0,none⟩)] w fun e w'=>e= .returned (.tuple #[])∧MSt base T M mv x z fl {c with f:=rsF (suN (c.r.getD d 0%pwZ z) (c.r.getD s 0%pwZ z) z) z (suO (c.r.getD d 0%pwZ z) (c.r.getD s 0%pwZ z) z)} w'∧Ch T M mv w w':=by
 have x1:=h.xo;have x2:=h.xd;have x3:=h.xs;have x4:=h.xz;have x5:=h.xi;rw[hxo]at x1;rw[hxd]at x2;rw[hxs]at x3;have hT:=h.ltT;have hne:T≠w.heap.size:=by omega
 have hpw:=D8 h.zz;have a0:0≤(c.r.getD s 0%pwZ z):=Int.emod_nonneg _ (by omega);have a1:(c.r.getD s 0%pwZ z)<4294967296:=by have:=Int.emod_lt_of_pos (c.r.getD s 0) hpw.1;omega
 have CG:=hid (fun wk (hk:XC base T M mv x z w.heap.size 12 (d:Int) (s:Int) x.z x.i w fl c wk)=>XC.liftD hk (H8 s hs wk hk.m));have CT:=hid (fun wk (hk:XC base T M mv x z w.heap.size 12 (d:Int) (s:Int) x.z x.i w fl c wk)=>XC.lift hk (B0r d hd (c.r.getD d 0%pwZ z) (c.r.getD s 0%pwZ z) wk hk.m hxd rfl a0 a1));generalize(c.r.getD s 0%pwZ z)=g at*
 generalize x.z=xz at*
 generalize x.i=xi at*
 have hX:=XC.new h 12 (d:Int) (s:Int) xz xi;clear h;go_enter func116,ntmps116;go_upto_region 23 with fail
 generalize(w.alloc (.cells #[.int .i64 12,.int .i64 (d:Int),.int .i64 (s:Int),.int .i64 xz,.int .i64 xi] 89))=wa at*
 generalize w.heap.size=B at*
 have rd:∀wk,XS base T M mv x z B 12 (d:Int) (s:Int) xz xi w wk→wk.cell? ⟨B,1,none⟩=some (.int .i64 (d:Int)):=fun wk h=>h.rd
 have rs:∀wk,XS base T M mv x z B 12 (d:Int) (s:Int) xz xi w wk→wk.cell? ⟨B,2,none⟩=some (.int .i64 (s:Int)):=fun wk h=>h.rs
 have ro:∀wk,XS base T M mv x z B 12 (d:Int) (s:Int) xz xi w wk→wk.cell? ⟨B,0,none⟩=some (.int .i64 12):=fun wk h=>h.ro
 have rl:∀wk,XS base T M mv x z B 12 (d:Int) (s:Int) xz xi w wk→B<wk.heap.size:=fun wk h=>h.rl
 refine wp_region_held_drew (S:=(XS base T M mv x z B 12 (d:Int) (s:Int) xz xi w)) (by kernel_rfl) ?_ (fun hHeld=>?_)
 ·(first|exact XC.toS (by assumption)|exact XC.toS (XC.drew (by assumption)))
 exact q1z
theorem A9a(d s:Nat)(hd:d<32)(hs:s<32)(w:World)(h:MSt base T M mv x z fl c w)(hxo:x.o=13)(hxd:x.d=(d:Int))(hxs:x.s=(s:Int)):Calls prog 116 #[.pointer (some ⟨T,0,none⟩)] w fun e w'=>e= .returned (.tuple #[])∧MSt base T M mv x z fl {c with f:=rsF (anW (c.r.getD d 0%pwZ z) (c.r.getD s 0%pwZ z)) z 0} w'∧Ch T M mv w w':=by
 have x1:=h.xo;have x2:=h.xd;have x3:=h.xs;have x4:=h.xz;have x5:=h.xi;rw[hxo]at x1;rw[hxd]at x2;rw[hxs]at x3;have hT:=h.ltT;have hne:T≠w.heap.size:=by omega
 have hpw:=D8 h.zz;have a0:0≤(c.r.getD s 0%pwZ z):=Int.emod_nonneg _ (by omega);have a1:(c.r.getD s 0%pwZ z)<4294967296:=by have:=Int.emod_lt_of_pos (c.r.getD s 0) hpw.1;omega
 have CG:=hid (fun wk (hk:XC base T M mv x z w.heap.size 13 (d:Int) (s:Int) x.z x.i w fl c wk)=>XC.liftD hk (H8 s hs wk hk.m));have CT:=hid (fun wk (hk:XC base T M mv x z w.heap.size 13 (d:Int) (s:Int) x.z x.i w fl c wk)=>XC.lift hk (B0q d hd (c.r.getD d 0%pwZ z) (c.r.getD s 0%pwZ z) wk hk.m hxd rfl a0 a1));generalize(c.r.getD s 0%pwZ z)=g at*
 generalize x.z=xz at*
 generalize x.i=xi at*
 have hX:=XC.new h 13 (d:Int) (s:Int) xz xi;clear h;go_enter func116,ntmps116;go_upto_region 23 with fail
 generalize(w.alloc (.cells #[.int .i64 13,.int .i64 (d:Int),.int .i64 (s:Int),.int .i64 xz,.int .i64 xi] 89))=wa at*
 generalize w.heap.size=B at*
 have rd:∀wk,XS base T M mv x z B 13 (d:Int) (s:Int) xz xi w wk→wk.cell? ⟨B,1,none⟩=some (.int .i64 (d:Int)):=fun wk h=>h.rd
 have rs:∀wk,XS base T M mv x z B 13 (d:Int) (s:Int) xz xi w wk→wk.cell? ⟨B,2,none⟩=some (.int .i64 (s:Int)):=fun wk h=>h.rs
 have ro:∀wk,XS base T M mv x z B 13 (d:Int) (s:Int) xz xi w wk→wk.cell? ⟨B,0,none⟩=some (.int .i64 13):=fun wk h=>h.ro
 have rl:∀wk,XS base T M mv x z B 13 (d:Int) (s:Int) xz xi w wk→B<wk.heap.size:=fun wk h=>h.rl
 refine wp_region_held_drew (S:=(XS base T M mv x z B 13 (d:Int) (s:Int) xz xi w)) (by kernel_rfl) ?_ (fun hHeld=>?_)
 ·(first|exact XC.toS (by assumption)|exact XC.toS (XC.drew (by assumption)))
 exact q1z
theorem A9Z(d s:Nat)(hd:d<32)(hs:s<32)(w:World)(h:MSt base T M mv x z fl c w)(hxo:x.o=14)(hxd:x.d=(d:Int))(hxs:x.s=(s:Int)):Calls prog 116 #[.pointer (some ⟨T,0,none⟩)] w fun e w'=>e= .returned (.tuple #[])∧MSt base T M mv x z fl {c with r:=c.r.set d (wrR (c.r.getD d 0) (adN (c.r.getD d 0%pwZ z) (x.i%4294967296) z) z),f:=rsF (adN (c.r.getD d 0%pwZ z) (x.i%4294967296) z) z (adO (c.r.getD d 0%pwZ z) (x.i%4294967296) z)} w'∧Ch T M mv w w':=by
 have x1:=h.xo;have x2:=h.xd;have x3:=h.xs;have x4:=h.xz;have x5:=h.xi;rw[hxo]at x1;rw[hxd]at x2;rw[hxs]at x3;have hT:=h.ltT;have hne:T≠w.heap.size:=by omega
 have hpw:=D8 h.zz;have a0:0≤(x.i%4294967296):=Int.emod_nonneg _ (by decide);have a1:(x.i%4294967296)<4294967296:=Int.emod_lt_of_pos _ (by decide);have CT:=hid (fun wk (hk:XC base T M mv x z w.heap.size 14 (d:Int) (s:Int) x.z x.i w fl c wk)=>XC.lift hk (B0p d hd (c.r.getD d 0%pwZ z) (x.i%4294967296) wk hk.m hxd rfl a0 a1));generalize x.z=xz at*
 generalize x.i=xi at*
 have hX:=XC.new h 14 (d:Int) (s:Int) xz xi;clear h;go_enter func116,ntmps116;go_upto_region 30 with fail
 generalize(w.alloc (.cells #[.int .i64 14,.int .i64 (d:Int),.int .i64 (s:Int),.int .i64 xz,.int .i64 xi] 89))=wa at*
 generalize w.heap.size=B at*
 obtain⟨⟨q0,q1,q2,q3,q4⟩,qf⟩:=hX.b.cells;have ql:=hX.b.lt;exact A4c
theorem A9Y(d s:Nat)(hd:d<32)(hs:s<32)(w:World)(h:MSt base T M mv x z fl c w)(hxo:x.o=15)(hxd:x.d=(d:Int))(hxs:x.s=(s:Int)):Calls prog 116 #[.pointer (some ⟨T,0,none⟩)] w fun e w'=>e= .returned (.tuple #[])∧MSt base T M mv x z fl {c with r:=c.r.set d (wrR (c.r.getD d 0) (orW (c.r.getD d 0%pwZ z) (x.i%4294967296)) z),f:=rsF (orW (c.r.getD d 0%pwZ z) (x.i%4294967296)) z 0} w'∧Ch T M mv w w':=by
 have x1:=h.xo;have x2:=h.xd;have x3:=h.xs;have x4:=h.xz;have x5:=h.xi;rw[hxo]at x1;rw[hxd]at x2;rw[hxs]at x3;have hT:=h.ltT;have hne:T≠w.heap.size:=by omega
 have hpw:=D8 h.zz;have a0:0≤(x.i%4294967296):=Int.emod_nonneg _ (by decide);have a1:(x.i%4294967296)<4294967296:=Int.emod_lt_of_pos _ (by decide);have CT:=hid (fun wk (hk:XC base T M mv x z w.heap.size 15 (d:Int) (s:Int) x.z x.i w fl c wk)=>XC.lift hk (B0o d hd (c.r.getD d 0%pwZ z) (x.i%4294967296) wk hk.m hxd rfl a0 a1));generalize x.z=xz at*
 generalize x.i=xi at*
 have hX:=XC.new h 15 (d:Int) (s:Int) xz xi;clear h;go_enter func116,ntmps116;go_upto_region 30 with fail
 generalize(w.alloc (.cells #[.int .i64 15,.int .i64 (d:Int),.int .i64 (s:Int),.int .i64 xz,.int .i64 xi] 89))=wa at*
 generalize w.heap.size=B at*
 obtain⟨⟨q0,q1,q2,q3,q4⟩,qf⟩:=hX.b.cells;have ql:=hX.b.lt;exact A4c
theorem A9X(d s:Nat)(hd:d<32)(hs:s<32)(w:World)(h:MSt base T M mv x z fl c w)(hxo:x.o=16)(hxd:x.d=(d:Int))(hxs:x.s=(s:Int)):Calls prog 116 #[.pointer (some ⟨T,0,none⟩)] w fun e w'=>e= .returned (.tuple #[])∧MSt base T M mv x z fl {c with r:=c.r.set d (wrR (c.r.getD d 0) (anW (c.r.getD d 0%pwZ z) (x.i%4294967296)) z),f:=rsF (anW (c.r.getD d 0%pwZ z) (x.i%4294967296)) z 0} w'∧Ch T M mv w w':=by
 have x1:=h.xo;have x2:=h.xd;have x3:=h.xs;have x4:=h.xz;have x5:=h.xi;rw[hxo]at x1;rw[hxd]at x2;rw[hxs]at x3;have hT:=h.ltT;have hne:T≠w.heap.size:=by omega
 have hpw:=D8 h.zz;have a0:0≤(x.i%4294967296):=Int.emod_nonneg _ (by decide);have a1:(x.i%4294967296)<4294967296:=Int.emod_lt_of_pos _ (by decide);have CT:=hid (fun wk (hk:XC base T M mv x z w.heap.size 16 (d:Int) (s:Int) x.z x.i w fl c wk)=>XC.lift hk (B0n d hd (c.r.getD d 0%pwZ z) (x.i%4294967296) wk hk.m hxd rfl a0 a1));generalize x.z=xz at*
 generalize x.i=xi at*
 have hX:=XC.new h 16 (d:Int) (s:Int) xz xi;clear h;go_enter func116,ntmps116;go_upto_region 30 with fail
 generalize(w.alloc (.cells #[.int .i64 16,.int .i64 (d:Int),.int .i64 (s:Int),.int .i64 xz,.int .i64 xi] 89))=wa at*
 generalize w.heap.size=B at*
 obtain⟨⟨q0,q1,q2,q3,q4⟩,qf⟩:=hX.b.cells;have ql:=hX.b.lt;exact A4c
theorem A9W(d s:Nat)(hd:d<32)(hs:s<32)(w:World)(h:MSt base T M mv x z fl c w)(hxo:x.o=17)(hxd:x.d=(d:Int))(hxs:x.s=(s:Int)):Calls prog 116 #[.pointer (some ⟨T,0,none⟩)] w fun e w'=>e= .returned (.tuple #[])∧MSt base T M mv x z fl {c with r:=c.r.set d (wrR (c.r.getD d 0) (suN (c.r.getD d 0%pwZ z) (x.i%4294967296) z) z),f:=rsF (suN (c.r.getD d 0%pwZ z) (x.i%4294967296) z) z (suO (c.r.getD d 0%pwZ z) (x.i%4294967296) z)} w'∧Ch T M mv w w':=by
 have x1:=h.xo;have x2:=h.xd;have x3:=h.xs;have x4:=h.xz;have x5:=h.xi;rw[hxo]at x1;rw[hxd]at x2;rw[hxs]at x3;have hT:=h.ltT;have hne:T≠w.heap.size:=by omega
 have hpw:=D8 h.zz;have a0:0≤(x.i%4294967296):=Int.emod_nonneg _ (by decide);have a1:(x.i%4294967296)<4294967296:=Int.emod_lt_of_pos _ (by decide);have CT:=hid (fun wk (hk:XC base T M mv x z w.heap.size 17 (d:Int) (s:Int) x.z x.i w fl c wk)=>XC.lift hk (B0m d hd (c.r.getD d 0%pwZ z) (x.i%4294967296) wk hk.m hxd rfl a0 a1));generalize x.z=xz at*
 generalize x.i=xi at*
 have hX:=XC.new h 17 (d:Int) (s:Int) xz xi;clear h;go_enter func116,ntmps116;go_upto_region 30 with fail
 generalize(w.alloc (.cells #[.int .i64 17,.int .i64 (d:Int),.int .i64 (s:Int),.int .i64 xz,.int .i64 xi] 89))=wa at*
 generalize w.heap.size=B at*
 obtain⟨⟨q0,q1,q2,q3,q4⟩,qf⟩:=hX.b.cells;have ql:=hX.b.lt;exact A4c
theorem A9V(d s:Nat)(hd:d<32)(hs:s<32)(w:World)(h:MSt base T M mv x z fl c w)(hxo:x.o=18)(hxd:x.d=(d:Int))(hxs:x.s=(s:Int)):Calls prog 116 #[.pointer (some ⟨T,0,none⟩)] w fun e w'=>e= .returned (.tuple #[])∧MSt base T M mv x z fl {c with r:=c.r.set d (wrR (c.r.getD d 0) (xoW (c.r.getD d 0%pwZ z) (x.i%4294967296)) z),f:=rsF (xoW (c.r.getD d 0%pwZ z) (x.i%4294967296)) z 0} w'∧Ch T M mv w w':=by
 have x1:=h.xo;have x2:=h.xd;have x3:=h.xs;have x4:=h.xz;have x5:=h.xi;rw[hxo]at x1;rw[hxd]at x2;rw[hxs]at x3;have hT:=h.ltT;have hne:T≠w.heap.size:=by omega
 have hpw:=D8 h.zz;have a0:0≤(x.i%4294967296):=Int.emod_nonneg _ (by decide);have a1:(x.i%4294967296)<4294967296:=Int.emod_lt_of_pos _ (by decide);have CT:=hid (fun wk (hk:XC base T M mv x z w.heap.size 18 (d:Int) (s:Int) x.z x.i w fl c wk)=>XC.lift hk (B0l d hd (c.r.getD d 0%pwZ z) (x.i%4294967296) wk hk.m hxd rfl a0 a1));generalize x.z=xz at*
 generalize x.i=xi at*
 have hX:=XC.new h 18 (d:Int) (s:Int) xz xi;clear h;go_enter func116,ntmps116;go_upto_region 30 with fail
 generalize(w.alloc (.cells #[.int .i64 18,.int .i64 (d:Int),.int .i64 (s:Int),.int .i64 xz,.int .i64 xi] 89))=wa at*
 generalize w.heap.size=B at*
 obtain⟨⟨q0,q1,q2,q3,q4⟩,qf⟩:=hX.b.cells;have ql:=hX.b.lt;exact A4c
theorem A9U(d s:Nat)(hd:d<32)(hs:s<32)(w:World)(h:MSt base T M mv x z fl c w)(hxo:x.o=19)(hxd:x.d=(d:Int))(hxs:x.s=(s:Int)):Calls prog 116 #[.pointer (some ⟨T,0,none⟩)] w fun e w'=>e= .returned (.tuple #[])∧MSt base T M mv x z fl {c with f:=rsF (suN (c.r.getD d 0%pwZ z) (x.i%4294967296) z) z (suO (c.r.getD d 0%pwZ z) (x.i%4294967296) z)} w'∧Ch T M mv w w':=by
 have x1:=h.xo;have x2:=h.xd;have x3:=h.xs;have x4:=h.xz;have x5:=h.xi;rw[hxo]at x1;rw[hxd]at x2;rw[hxs]at x3;have hT:=h.ltT;have hne:T≠w.heap.size:=by omega
 have hpw:=D8 h.zz;have a0:0≤(x.i%4294967296):=Int.emod_nonneg _ (by decide);have a1:(x.i%4294967296)<4294967296:=Int.emod_lt_of_pos _ (by decide);have CT:=hid (fun wk (hk:XC base T M mv x z w.heap.size 19 (d:Int) (s:Int) x.z x.i w fl c wk)=>XC.lift hk (B0k d hd (c.r.getD d 0%pwZ z) (x.i%4294967296) wk hk.m hxd rfl a0 a1));generalize x.z=xz at*
 generalize x.i=xi at*
 have hX:=XC.new h 19 (d:Int) (s:Int) xz xi;clear h;go_enter func116,ntmps116;go_upto_region 30 with fail
 generalize(w.alloc (.cells #[.int .i64 19,.int .i64 (d:Int),.int .i64 (s:Int),.int .i64 xz,.int .i64 xi] 89))=wa at*
 generalize w.heap.size=B at*
 obtain⟨⟨q0,q1,q2,q3,q4⟩,qf⟩:=hX.b.cells;have ql:=hX.b.lt;exact A4c
theorem A9T(d s:Nat)(hd:d<32)(hs:s<32)(w:World)(h:MSt base T M mv x z fl c w)(hxo:x.o=20)(hxd:x.d=(d:Int))(hxs:x.s=(s:Int)):Calls prog 116 #[.pointer (some ⟨T,0,none⟩)] w fun e w'=>e= .returned (.tuple #[])∧MSt base T M mv x z fl (A6W d s c) w'∧Ch T M mv w w':=by
 have x1:=h.xo;have x2:=h.xd;have x3:=h.xs;have x4:=h.xz;have x5:=h.xi;rw[hxo]at x1;rw[hxd]at x2;rw[hxs]at x3;have hT:=h.ltT;have hne:T≠w.heap.size:=by omega
 have hpw:=D8 h.zz;have CM:=hid (fun wk (hk:XC base T M mv x z w.heap.size 20 (d:Int) (s:Int) x.z x.i w fl c wk)=>XC.lift hk (A0r d s hd hs wk hk.m hxd hxs));generalize x.z=xz at*
 generalize x.i=xi at*
 have hX:=XC.new h 20 (d:Int) (s:Int) xz xi;clear h;go_enter func116,ntmps116;go_upto_region 32 with fail
 generalize(w.alloc (.cells #[.int .i64 20,.int .i64 (d:Int),.int .i64 (s:Int),.int .i64 xz,.int .i64 xi] 89))=wa at*
 generalize w.heap.size=B at*
 obtain⟨⟨q0,q1,q2,q3,q4⟩,qf⟩:=hX.b.cells;have ql:=hX.b.lt;go_wp2_with(first|((go_at_call 165;with_reducible refine(CM.out _ (by first|assumption|exact XC.drew (by assumption)|exact XC.drewN (by assumption) _)).mono ?_);rintro e w2 ⟨rfl,hm9⟩))
 have hF:=hm9;exact bodyPost_end (v:=.tuple #[]) (by simp[results,results116,go_sem]) rfl ⟨rfl,hF.m,hF.ch⟩
theorem A9S(d s:Nat)(hd:d<32)(hs:s<32)(w:World)(h:MSt base T M mv x z fl c w)(hxo:x.o=21)(hxd:x.d=(d:Int))(hxs:x.s=(s:Int)):Calls prog 116 #[.pointer (some ⟨T,0,none⟩)] w fun e w'=>e= .returned (.tuple #[])∧MSt base T M mv x z fl (shM 21 z d c) w'∧Ch T M mv w w':=by
 have x1:=h.xo;have x2:=h.xd;have x3:=h.xs;have x4:=h.xz;have x5:=h.xi;rw[hxo]at x1;rw[hxd]at x2;rw[hxs]at x3;have hT:=h.ltT;have hne:T≠w.heap.size:=by omega
 have hpw:=D8 h.zz;have CM:=hid (fun wk (hk:XC base T M mv x z w.heap.size 21 (d:Int) (s:Int) x.z x.i w fl c wk)=>XC.lift hk (A6C d hd wk hk.m hxd hxo));generalize x.z=xz at*
 generalize x.i=xi at*
 have hX:=XC.new h 21 (d:Int) (s:Int) xz xi;clear h;go_enter func116,ntmps116;go_upto_region 36 with fail
 generalize(w.alloc (.cells #[.int .i64 21,.int .i64 (d:Int),.int .i64 (s:Int),.int .i64 xz,.int .i64 xi] 89))=wa at*
 generalize w.heap.size=B at*
 obtain⟨⟨q0,q1,q2,q3,q4⟩,qf⟩:=hX.b.cells;have ql:=hX.b.lt;exact B1P
theorem A9R(d s:Nat)(hd:d<32)(hs:s<32)(w:World)(h:MSt base T M mv x z fl c w)(hxo:x.o=22)(hxd:x.d=(d:Int))(hxs:x.s=(s:Int)):Calls prog 116 #[.pointer (some ⟨T,0,none⟩)] w fun e w'=>e= .returned (.tuple #[])∧MSt base T M mv x z fl (shM 22 z d c) w'∧Ch T M mv w w':=by
 have x1:=h.xo;have x2:=h.xd;have x3:=h.xs;have x4:=h.xz;have x5:=h.xi;rw[hxo]at x1;rw[hxd]at x2;rw[hxs]at x3;have hT:=h.ltT;have hne:T≠w.heap.size:=by omega
 have hpw:=D8 h.zz;have CM:=hid (fun wk (hk:XC base T M mv x z w.heap.size 22 (d:Int) (s:Int) x.z x.i w fl c wk)=>XC.lift hk (A6B d hd wk hk.m hxd hxo));generalize x.z=xz at*
 generalize x.i=xi at*
 have hX:=XC.new h 22 (d:Int) (s:Int) xz xi;clear h;go_enter func116,ntmps116;go_upto_region 36 with fail
 generalize(w.alloc (.cells #[.int .i64 22,.int .i64 (d:Int),.int .i64 (s:Int),.int .i64 xz,.int .i64 xi] 89))=wa at*
 generalize w.heap.size=B at*
 obtain⟨⟨q0,q1,q2,q3,q4⟩,qf⟩:=hX.b.cells;have ql:=hX.b.lt;exact B1P
theorem A9Q(d s:Nat)(hd:d<32)(hs:s<32)(w:World)(h:MSt base T M mv x z fl c w)(hxo:x.o=23)(hxd:x.d=(d:Int))(hxs:x.s=(s:Int)):Calls prog 116 #[.pointer (some ⟨T,0,none⟩)] w fun e w'=>e= .returned (.tuple #[])∧MSt base T M mv x z fl (shM 23 z d c) w'∧Ch T M mv w w':=by
 have x1:=h.xo;have x2:=h.xd;have x3:=h.xs;have x4:=h.xz;have x5:=h.xi;rw[hxo]at x1;rw[hxd]at x2;rw[hxs]at x3;have hT:=h.ltT;have hne:T≠w.heap.size:=by omega
 have hpw:=D8 h.zz;have CM:=hid (fun wk (hk:XC base T M mv x z w.heap.size 23 (d:Int) (s:Int) x.z x.i w fl c wk)=>XC.lift hk (A6A d hd wk hk.m hxd hxo));generalize x.z=xz at*
 generalize x.i=xi at*
 have hX:=XC.new h 23 (d:Int) (s:Int) xz xi;clear h;go_enter func116,ntmps116;go_upto_region 36 with fail
 generalize(w.alloc (.cells #[.int .i64 23,.int .i64 (d:Int),.int .i64 (s:Int),.int .i64 xz,.int .i64 xi] 89))=wa at*
 generalize w.heap.size=B at*
 obtain⟨⟨q0,q1,q2,q3,q4⟩,qf⟩:=hX.b.cells;have ql:=hX.b.lt;exact B1P
theorem A9P(d s:Nat)(hd:d<32)(hs:s<32)(w:World)(h:MSt base T M mv x z fl c w)(hxo:x.o=24)(hxd:x.d=(d:Int))(hxs:x.s=(s:Int)):Calls prog 116 #[.pointer (some ⟨T,0,none⟩)] w fun e w'=>e= .returned (.tuple #[])∧MSt base T M mv x z fl {c with r:=c.r.set d (wrR (c.r.getD d 0) (4294967295-(c.r.getD d 0%pwZ z)) z)} w'∧Ch T M mv w w':=by
 have x1:=h.xo;have x2:=h.xd;have x3:=h.xs;have x4:=h.xz;have x5:=h.xi;rw[hxo]at x1;rw[hxd]at x2;rw[hxs]at x3;have hT:=h.ltT;have hne:T≠w.heap.size:=by omega
 have hpw:=D8 h.zz;have a0:0≤(c.r.getD d 0%pwZ z):=Int.emod_nonneg _ (by omega);have a1:(c.r.getD d 0%pwZ z)<4294967296:=by have:=Int.emod_lt_of_pos (c.r.getD d 0) hpw.1;omega
 have CG:=hid (fun wk (hk:XC base T M mv x z w.heap.size 24 (d:Int) (s:Int) x.z x.i w fl c wk)=>XC.liftD hk (H8 d hd wk hk.m));have CS:=hid (fun wk (hk:XC base T M mv x z w.heap.size 24 (d:Int) (s:Int) x.z x.i w fl c wk)=>XC.lift hk (I2 d hd (4294967295-(c.r.getD d 0%pwZ z)) wk hk.m (by omega) (by omega)));have hnot:=A7t (c.r.getD d 0%pwZ z) a0 a1;generalize(c.r.getD d 0%pwZ z)=g at*
 generalize x.z=xz at*
 generalize x.i=xi at*
 have hX:=XC.new h 24 (d:Int) (s:Int) xz xi;clear h;go_enter func116,ntmps116;go_upto_region 38 with fail
 generalize(w.alloc (.cells #[.int .i64 24,.int .i64 (d:Int),.int .i64 (s:Int),.int .i64 xz,.int .i64 xi] 89))=wa at*
 generalize w.heap.size=B at*
 have rd:∀wk,XS base T M mv x z B 24 (d:Int) (s:Int) xz xi w wk→wk.cell? ⟨B,1,none⟩=some (.int .i64 (d:Int)):=fun wk h=>h.rd
 have rs:∀wk,XS base T M mv x z B 24 (d:Int) (s:Int) xz xi w wk→wk.cell? ⟨B,2,none⟩=some (.int .i64 (s:Int)):=fun wk h=>h.rs
 have ro:∀wk,XS base T M mv x z B 24 (d:Int) (s:Int) xz xi w wk→wk.cell? ⟨B,0,none⟩=some (.int .i64 24):=fun wk h=>h.ro
 have rl:∀wk,XS base T M mv x z B 24 (d:Int) (s:Int) xz xi w wk→B<wk.heap.size:=fun wk h=>h.rl
 refine wp_region_held_drew (S:=(XS base T M mv x z B 24 (d:Int) (s:Int) xz xi w)) (by kernel_rfl) ?_ (fun hHeld=>?_)
 ·(first|exact XC.toS (by assumption)|exact XC.toS (XC.drew (by assumption)))
 refine tk 0 ?_;refine tk 1 ?_;refine tk 2 ?_;refine tk 3 ?_;refine tk 4 ?_;refine tk 5 ?_;refine rd1 6 (fun K hK=>?_)
 (go_simp;first|((go_at_call 160;with_reducible refine(CG.out _ (by first|assumption|exact XC.drew (by assumption)|exact XC.drewN (by assumption) _)).mono ?_);rintro e w1 ⟨rfl,hm1⟩)|((go_at_call 159;with_reducible refine(CS.out _ (by first|assumption|exact XC.drew (by assumption)|exact XC.drewN (by assumption) _)).mono ?_);rintro e w2 ⟨rfl,hm9⟩))
 refine hK.out _ _ ?_ (fun hHeld=>?_)
 ·(first|exact XC.toS (by assumption)|exact XC.toS (XC.drew (by assumption)))
 clear hK K
 try go_frame
 refine tk 7 ?_;refine rd1 8 (fun K hK=>?_);exact B3g
theorem A9O(d s:Nat)(hd:d<32)(hs:s<32)(w:World)(h:MSt base T M mv x z fl c w)(hxo:x.o=25)(hxd:x.d=(d:Int))(hxs:x.s=(s:Int)):Calls prog 116 #[.pointer (some ⟨T,0,none⟩)] w fun e w'=>e= .returned (.tuple #[])∧MSt base T M mv x z fl {c with r:=c.r.set d (wrR (c.r.getD d 0) (suN 0 (c.r.getD d 0%pwZ z) z) z),f:=rsF (suN 0 (c.r.getD d 0%pwZ z) z) z (suO 0 (c.r.getD d 0%pwZ z) z)} w'∧Ch T M mv w w':=by
 have x1:=h.xo;have x2:=h.xd;have x3:=h.xs;have x4:=h.xz;have x5:=h.xi;rw[hxo]at x1;rw[hxd]at x2;rw[hxs]at x3;have hT:=h.ltT;have hne:T≠w.heap.size:=by omega
 have hpw:=D8 h.zz;have a0:0≤(c.r.getD d 0%pwZ z):=Int.emod_nonneg _ (by omega);have a1:(c.r.getD d 0%pwZ z)<4294967296:=by have:=Int.emod_lt_of_pos (c.r.getD d 0) hpw.1;omega
 have n0:=n9 (a:=0) (b:=(c.r.getD d 0%pwZ z)) h.zz;have CG:=hid (fun wk (hk:XC base T M mv x z w.heap.size 25 (d:Int) (s:Int) x.z x.i w fl c wk)=>XC.liftD hk (H8 d hd wk hk.m));have CB:=hid (fun wk (hk:XC base T M mv x z w.heap.size 25 (d:Int) (s:Int) x.z x.i w fl c wk)=>XC.lift hk (g8 0 (c.r.getD d 0%pwZ z) wk hk.m (by decide) (by decide) a0 a1));have CS:=hid (fun wk (hk:XC base T M mv x z w.heap.size 25 (d:Int) (s:Int) x.z x.i w fl {c with f:=rsF (suN 0 (c.r.getD d 0%pwZ z) z) z (suO 0 (c.r.getD d 0%pwZ z) z)} wk)=>XC.lift hk (I2 d hd (suN 0 (c.r.getD d 0%pwZ z) z) wk hk.m n0.1 (by omega)));clear n0;generalize suO 0 (c.r.getD d 0%pwZ z) z=o at*
 generalize suN 0 (c.r.getD d 0%pwZ z) z=n at*
 generalize(c.r.getD d 0%pwZ z)=g at*
 generalize x.z=xz at*
 generalize x.i=xi at*
 have hX:=XC.new h 25 (d:Int) (s:Int) xz xi;clear h;go_enter func116,ntmps116;go_upto_region 40 with fail
 generalize(w.alloc (.cells #[.int .i64 25,.int .i64 (d:Int),.int .i64 (s:Int),.int .i64 xz,.int .i64 xi] 89))=wa at*
 generalize w.heap.size=B at*
 have rd:∀wk,XS base T M mv x z B 25 (d:Int) (s:Int) xz xi w wk→wk.cell? ⟨B,1,none⟩=some (.int .i64 (d:Int)):=fun wk h=>h.rd
 have rs:∀wk,XS base T M mv x z B 25 (d:Int) (s:Int) xz xi w wk→wk.cell? ⟨B,2,none⟩=some (.int .i64 (s:Int)):=fun wk h=>h.rs
 have ro:∀wk,XS base T M mv x z B 25 (d:Int) (s:Int) xz xi w wk→wk.cell? ⟨B,0,none⟩=some (.int .i64 25):=fun wk h=>h.ro
 have rl:∀wk,XS base T M mv x z B 25 (d:Int) (s:Int) xz xi w wk→B<wk.heap.size:=fun wk h=>h.rl
 refine wp_region_held_drew (S:=(XS base T M mv x z B 25 (d:Int) (s:Int) xz xi w)) (by kernel_rfl) ?_ (fun hHeld=>?_)
 ·(first|exact XC.toS (by assumption)|exact XC.toS (XC.drew (by assumption)))
 refine tk 0 ?_;refine tk 1 ?_;refine tk 2 ?_;refine tk 3 ?_;refine tk 4 ?_;refine tk 5 ?_;refine tk 6 ?_;refine rd1 7 (fun K hK=>?_)
 (go_simp;first|((go_at_call 160;with_reducible refine(CG.out _ (by first|assumption|exact XC.drew (by assumption)|exact XC.drewN (by assumption) _)).mono ?_);rintro e w1 ⟨rfl,hm1⟩)|((go_at_call 167;with_reducible refine(CB.out _ (by first|assumption|exact XC.drew (by assumption)|exact XC.drewN (by assumption) _)).mono ?_);rintro e w2 ⟨rfl,hm2⟩)|((go_at_call 159;with_reducible refine(CS.out _ (by first|assumption|exact XC.drew (by assumption)|exact XC.drewN (by assumption) _)).mono ?_);rintro e w3 ⟨rfl,hm9⟩))
 refine hK.out _ _ ?_ (fun hHeld=>?_)
 ·(first|exact XC.toS (by assumption)|exact XC.toS (XC.drew (by assumption)))
 clear hK K
 try go_frame
 refine rd1 8 (fun K hK=>?_)
 (go_simp;first|((go_at_call 160;with_reducible refine(CG.out _ (by first|assumption|exact XC.drew (by assumption)|exact XC.drewN (by assumption) _)).mono ?_);rintro e w1 ⟨rfl,hm1⟩)|((go_at_call 167;with_reducible refine(CB.out _ (by first|assumption|exact XC.drew (by assumption)|exact XC.drewN (by assumption) _)).mono ?_);rintro e w2 ⟨rfl,hm2⟩)|((go_at_call 159;with_reducible refine(CS.out _ (by first|assumption|exact XC.drew (by assumption)|exact XC.drewN (by assumption) _)).mono ?_);rintro e w3 ⟨rfl,hm9⟩))
 refine hK.out _ _ ?_ (fun hHeld=>?_)
 ·(first|exact XC.toS (by assumption)|exact XC.toS (XC.drew (by assumption)))
 clear hK K
 try go_frame
 refine rd1 9 (fun K hK=>?_)
 (go_simp;first|((go_at_call 160;with_reducible refine(CG.out _ (by first|assumption|exact XC.drew (by assumption)|exact XC.drewN (by assumption) _)).mono ?_);rintro e w1 ⟨rfl,hm1⟩)|((go_at_call 167;with_reducible refine(CB.out _ (by first|assumption|exact XC.drew (by assumption)|exact XC.drewN (by assumption) _)).mono ?_);rintro e w2 ⟨rfl,hm2⟩)|((go_at_call 159;with_reducible refine(CS.out _ (by first|assumption|exact XC.drew (by assumption)|exact XC.drewN (by assumption) _)).mono ?_);rintro e w3 ⟨rfl,hm9⟩))
 exact q6z
theorem A9N(d s:Nat)(hd:d<32)(hs:s<32)(w:World)(h:MSt base T M mv x z fl c w)(hxo:x.o=26)(hxd:x.d=(d:Int))(hxs:x.s=(s:Int)):Calls prog 116 #[.pointer (some ⟨T,0,none⟩)] w fun e w'=>e= .returned (.tuple #[])∧MSt base T M mv x z (A3c (f8 d c) fl) ((f8 d c).getD c) w'∧Ch T M mv w w':=by
 have x1:=h.xo;have x2:=h.xd;have x3:=h.xs;have x4:=h.xz;have x5:=h.xi;rw[hxo]at x1;rw[hxd]at x2;rw[hxs]at x3;have hT:=h.ltT;have hne:T≠w.heap.size:=by omega
 have hpw:=D8 h.zz;have CM:=hid (fun wk (hk:XC base T M mv x z w.heap.size 26 (d:Int) (s:Int) x.z x.i w fl c wk)=>XC.lift hk (show Calls _ _ _ _ (fun e w2=>e=_∧MSt base T M mv x z (A3c (f8 d c) fl) ((f8 d c).getD c) w2∧Ch T M mv wk w2)from A5K d hd wk hk.m hxd hxo));generalize A3c (f8 d c) fl=fl2 at*
 generalize(f8 d c).getD c=c2 at*
 generalize x.z=xz at*
 generalize x.i=xi at*
 have hX:=XC.new h 26 (d:Int) (s:Int) xz xi;clear h;go_enter func116,ntmps116;go_upto_region 43 with fail
 generalize(w.alloc (.cells #[.int .i64 26,.int .i64 (d:Int),.int .i64 (s:Int),.int .i64 xz,.int .i64 xi] 89))=wa at*
 generalize w.heap.size=B at*
 obtain⟨⟨q0,q1,q2,q3,q4⟩,qf⟩:=hX.b.cells;have ql:=hX.b.lt;exact B3b
theorem A9M(d s:Nat)(hd:d<32)(hs:s<32)(w:World)(h:MSt base T M mv x z fl c w)(hxo:x.o=27)(hxd:x.d=(d:Int))(hxs:x.s=(s:Int)):Calls prog 116 #[.pointer (some ⟨T,0,none⟩)] w fun e w'=>e= .returned (.tuple #[])∧MSt base T M mv x z (A3c (x9 d c) fl) ((x9 d c).getD c) w'∧Ch T M mv w w':=by
 have x1:=h.xo;have x2:=h.xd;have x3:=h.xs;have x4:=h.xz;have x5:=h.xi;rw[hxo]at x1;rw[hxd]at x2;rw[hxs]at x3;have hT:=h.ltT;have hne:T≠w.heap.size:=by omega
 have hpw:=D8 h.zz;have CM:=hid (fun wk (hk:XC base T M mv x z w.heap.size 27 (d:Int) (s:Int) x.z x.i w fl c wk)=>XC.lift hk (show Calls _ _ _ _ (fun e w2=>e=_∧MSt base T M mv x z (A3c (x9 d c) fl) ((x9 d c).getD c) w2∧Ch T M mv wk w2)from A5J d hd wk hk.m hxd hxo));generalize A3c (x9 d c) fl=fl2 at*
 generalize(x9 d c).getD c=c2 at*
 generalize x.z=xz at*
 generalize x.i=xi at*
 have hX:=XC.new h 27 (d:Int) (s:Int) xz xi;clear h;go_enter func116,ntmps116;go_upto_region 43 with fail
 generalize(w.alloc (.cells #[.int .i64 27,.int .i64 (d:Int),.int .i64 (s:Int),.int .i64 xz,.int .i64 xi] 89))=wa at*
 generalize w.heap.size=B at*
 obtain⟨⟨q0,q1,q2,q3,q4⟩,qf⟩:=hX.b.cells;have ql:=hX.b.lt;exact B3b
theorem A9F(d s:Nat)(hd:d<32)(hs:s<32)(w:World)(h:MSt base T M mv x z fl c w)(hxo:x.o=34)(hxd:x.d=(d:Int))(hxs:x.s=(s:Int)):Calls prog 116 #[.pointer (some ⟨T,0,none⟩)] w fun e w'=>e= .returned (.tuple #[])∧MSt base T M mv x z fl {c with e:=1} w'∧Ch T M mv w w':=by
 have x1:=h.xo;have x2:=h.xd;have x3:=h.xs;have x4:=h.xz;have x5:=h.xi;rw[hxo]at x1;rw[hxd]at x2;rw[hxs]at x3;have hT:=h.ltT;have hne:T≠w.heap.size:=by omega
 have hpw:=D8 h.zz;have hm:=h;generalize x.z=xz at*
 generalize x.i=xi at*
 have hX:=XC.new h 34 (d:Int) (s:Int) xz xi;clear h hm;go_enter func116,ntmps116;go_upto_region 54 with fail
 generalize(w.alloc (.cells #[.int .i64 34,.int .i64 (d:Int),.int .i64 (s:Int),.int .i64 xz,.int .i64 xi] 89))=wa at*
 have hp:=hX.m.ptr;have he:=hX.m.en;have hF:=hX.next (hX.m.setE 1) ((Ch.refl _ _ _ _).setM 35 (.int .i64 1))
 clear hX;exact A4Y
theorem A9E(d s:Nat)(hd:d<32)(hs:s<32)(w:World)(h:MSt base T M mv x z fl c w)(hxo:x.o=35)(hxd:x.d=(d:Int))(hxs:x.s=(s:Int)):Calls prog 116 #[.pointer (some ⟨T,0,none⟩)] w fun e w'=>e= .returned (.tuple #[])∧MSt base T M mv x z fl {c with e:=2} w'∧Ch T M mv w w':=by
 have x1:=h.xo;have x2:=h.xd;have x3:=h.xs;have x4:=h.xz;have x5:=h.xi;rw[hxo]at x1;rw[hxd]at x2;rw[hxs]at x3;have hT:=h.ltT;have hne:T≠w.heap.size:=by omega
 have hpw:=D8 h.zz;have hm:=h;generalize x.z=xz at*
 generalize x.i=xi at*
 have hX:=XC.new h 35 (d:Int) (s:Int) xz xi;clear h hm;go_enter func116,ntmps116;go_upto_region 56 with fail
 generalize(w.alloc (.cells #[.int .i64 35,.int .i64 (d:Int),.int .i64 (s:Int),.int .i64 xz,.int .i64 xi] 89))=wa at*
 have hp:=hX.m.ptr;have he:=hX.m.en;have hF:=hX.next (hX.m.setE 2) ((Ch.refl _ _ _ _).setM 35 (.int .i64 2))
 clear hX;exact A4Y
end
end Go.Proofs.YtajljbmeaeeknaaGreat
