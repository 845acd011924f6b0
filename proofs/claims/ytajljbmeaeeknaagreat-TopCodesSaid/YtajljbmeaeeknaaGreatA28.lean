/- -/
import Derived.Laws.IdiomCopy
import Derived.Test.YtajljbmeaeeknaaGreatA10
import Derived.Test.YtajljbmeaeeknaaGreatA24
open Go.Proofs.Tryz
open Go.Lib (hid)
set_option maxHeartbeats 1000000
set_option maxRecDepth 100000
namespace Go.Proofs.YtajljbmeaeeknaaGreat
open Go.RowKit Go.Maps
set_option linter.unusedVariables false
set_option linter.unusedSimpArgs false
theorem q8z{p:Prop}(h:p:=by
 refine tk 0 ?_;refine tk 1 ?_;refine tk 2 ?_;refine tk 3 ?_;refine tk 4 ?_;refine tk 5 ?_;refine tk 6 ?_;refine tk 7 ?_;refine tk 9 ?_;refine tk 10 ?_;refine tk 11 ?_;refine tk 12 ?_;refine tk 13 ?_;refine tk 14 ?_;refine tk 15 ?_;refine tk 16 ?_;refine tk 17 ?_;refine tk 18 ?_;refine tk 19 ?_;refine tk 20 ?_;refine tk 21 ?_;refine tk 22 ?_;refine tk 23 ?_;refine tk 24 ?_;refine rd1 8 (fun K hK=>?_)
 (go_simp;first|((go_at_call 162;with_reducible refine(CM.out _ (by first|assumption|exact XC.drew (by assumption)|exact XC.drewN (by assumption) _)).mono ?_);rintro e w1 ⟨g,rfl,ho,hg,hm,hc⟩;have hm1:=XC.next (by first|assumption|exact XC.drew (by assumption)) hm hc;have ho1:=hid ho;have hg2:wa.heap.size≤g:=hg;clear hm hc ho)|((with_reducible refine(CN.out _).mono ?_);rintro e w2 ⟨v2,rfl,hr,hb⟩;have hm2:=XC.next hm1 (hm1.m.same hb) (Ch.of_below hb);obtain⟨hrun,hm9⟩:=CC.out _ g _ hm2 (by have:=hX.b.lt;omega) (ho1.out.below hb) (hr.mono (by have:=XC.b hm1;exact Nat.le_of_lt (Box5.lt this))) (by have:=hX.m.ltT;omega) (by have:=hX.m.ltM;omega) (fun e=>by have:=(hX.m.own _ e).2;omega)))
 refine hK.out _ _ ?_ (fun hHeld=>?_)
 ·(first|exact⟨_,_,hm9,rfl⟩|exact XC.toM (by assumption)|exact XC.toM (XC.drew (by assumption)))
 clear hK K
 try go_frame
 refine rd1 25 (fun K hK=>?_)
 (go_simp;first|((go_at_call 162;with_reducible refine(CM.out _ (by first|assumption|exact XC.drew (by assumption)|exact XC.drewN (by assumption) _)).mono ?_);rintro e w1 ⟨g,rfl,ho,hg,hm,hc⟩;have hm1:=XC.next (by first|assumption|exact XC.drew (by assumption)) hm hc;have ho1:=hid ho;have hg2:wa.heap.size≤g:=hg;clear hm hc ho)|((with_reducible refine(CN.out _).mono ?_);rintro e w2 ⟨v2,rfl,hr,hb⟩;have hm2:=XC.next hm1 (hm1.m.same hb) (Ch.of_below hb);obtain⟨hrun,hm9⟩:=CC.out _ g _ hm2 (by have:=hX.b.lt;omega) (ho1.out.below hb) (hr.mono (by have:=XC.b hm1;exact Nat.le_of_lt (Box5.lt this))) (by have:=hX.m.ltT;omega) (by have:=hX.m.ltM;omega) (fun e=>by have:=(hX.m.own _ e).2;omega)))
 refine hK.out _ _ ?_ (fun hHeld=>?_)
 ·(first|exact⟨_,_,hm9,rfl⟩|exact XC.toM (by assumption)|exact XC.toM (XC.drew (by assumption)))
 clear hK K
 try go_frame
 refine rd1 26 (fun K hK=>?_);go_simp;refine hK.out _ _ ?_ (fun hHeld=>?_)
 ·(first|exact⟨_,_,hm9,rfl⟩|exact XC.toM (by assumption)|exact XC.toM (XC.drew (by assumption)))
 clear hK K
 try go_frame
 refine wpAnyH_done (by kernel_rfl) ?_ _;have hF:=hm9;go_wp2_with fail
 exact bodyPost_end (v:=.tuple #[]) (by simp[results,results116,go_sem]) rfl ⟨rfl,hF.m,hF.ch⟩
 ):p:=h
theorem B4G{p:Prop}(h:p:=by
 refine tk 0 ?_;refine tk 1 ?_;refine tk 2 ?_;refine tk 3 ?_;refine tk 4 ?_;refine tk 5 ?_;refine tk 6 ?_;refine tk 7 ?_;refine tk 9 ?_;refine tk 10 ?_;refine tk 11 ?_;refine tk 12 ?_;refine tk 13 ?_;refine tk 14 ?_;refine tk 15 ?_;refine tk 16 ?_;refine tk 17 ?_;refine tk 18 ?_;refine tk 19 ?_;refine tk 20 ?_;refine tk 21 ?_;refine tk 22 ?_;refine tk 23 ?_;refine tk 24 ?_;refine rd1 8 (fun K hK=>?_)
 (go_simp;first|((go_at_call 162;with_reducible refine(CM.out _ (by first|assumption|exact XC.drew (by assumption)|exact XC.drewN (by assumption) _)).mono ?_);rintro e w1 ⟨rfl,hm1⟩)|((with_reducible refine(CN.out _).mono ?_);rintro e w2 ⟨v2,rfl,hr,hb⟩;have hm2:=XC.next hm1 (hm1.m.same hb) (Ch.of_below hb);obtain⟨hrun,hm9⟩:=CC.out _ _ hm2 (hr.mono (by have:=XC.b hm1;exact Nat.le_of_lt (Box5.lt this)))))
 refine hK.out _ _ ?_ (fun hHeld=>?_)
 ·(first|exact⟨_,_,hm9,rfl⟩|exact XC.toM (by assumption)|exact XC.toM (XC.drew (by assumption)))
 clear hK K
 try go_frame
 refine rd1 25 (fun K hK=>?_)
 (go_simp;first|((go_at_call 162;with_reducible refine(CM.out _ (by first|assumption|exact XC.drew (by assumption)|exact XC.drewN (by assumption) _)).mono ?_);rintro e w1 ⟨rfl,hm1⟩)|((with_reducible refine(CN.out _).mono ?_);rintro e w2 ⟨v2,rfl,hr,hb⟩;have hm2:=XC.next hm1 (hm1.m.same hb) (Ch.of_below hb);obtain⟨hrun,hm9⟩:=CC.out _ _ hm2 (hr.mono (by have:=XC.b hm1;exact Nat.le_of_lt (Box5.lt this)))))
 refine hK.out _ _ ?_ (fun hHeld=>?_)
 ·(first|exact⟨_,_,hm9,rfl⟩|exact XC.toM (by assumption)|exact XC.toM (XC.drew (by assumption)))
 clear hK K
 try go_frame
 refine rd1 26 (fun K hK=>?_);go_simp;refine hK.out _ _ ?_ (fun hHeld=>?_)
 ·(first|exact⟨_,_,hm9,rfl⟩|exact XC.toM (by assumption)|exact XC.toM (XC.drew (by assumption)))
 clear hK K
 try go_frame
 refine wpAnyH_done (by kernel_rfl) ?_ _;have hF:=hm9;go_wp2_with fail
 exact bodyPost_end (v:=.tuple #[]) (by simp[results,results116,go_sem]) rfl ⟨rfl,hF.m,hF.ch⟩
 ):p:=h
theorem A0N{p:Prop}(h:p:=by
 (first|exact⟨_,_,hm9,rfl⟩|exact XC.toM (by assumption)|exact XC.toM (XC.drew (by assumption)))
 ):p:=h
theorem B0E{p:Prop}(h:p:=by
 refine hK.out _ _ ?_ (fun hHeld=>?_)
 ·exact A0N
 clear hK K
 try go_frame
 refine rd1 16 (fun K hK=>?_);go_simp;refine hK.out _ _ ?_ (fun hHeld=>?_)
 ·exact A0N
 clear hK K
 try go_frame
 refine wpAnyH_done (by kernel_rfl) ?_ _;have hF:=hm9;exact A4Y
 ):p:=h
def x7:List Int→Nat→List Int→List Int
 |m,_,[]=>m
 |m,q,y::l=>x7 (m.set q y) (q+1) l
section
variable {base T M : Nat} {mv : Value} {x : Ins} {z : Int} {fl : Bool} {c : Mac} {w : World}
theorem MSt.setM1(h:MSt base T M mv x z fl c w){D cap:Nat}(hmv:mv= .slice (some ⟨D,0,none⟩) c.m.length cap){q:Nat}{y:Int}(hq:q<c.m.length)(y0:0≤y)(y1:y<256):MSt base T M mv x z fl {c with m:=c.m.set q y} (w.setCell ⟨D,q,none⟩ (.int .u8 y)):=by
 rcases h.v with⟨e,_⟩|⟨D',cap',e,h1,h2,h3,h4,h5,h6⟩
 ·rw[e]at hq;exact absurd hq (by simp)
 ·have e2:=hmv.symm.trans e;injection e2 with e3 e4 e5
  injection e3 with e6
  injection e6 with e7
  subst e7;refine{h with t:=h.t.other h3.symm _,m:=h.m.other h4.symm _,v:=Or.inr ⟨D,cap',?_,?_,h2,h3,h4,h5,h6.set hq y⟩,ml:=by simpa using h.ml,mb:=fun k=>?_}
  ·rw[e];simp
  ·simpa using h1
  ·show 0≤(c.m.set q y).getD k 0∧_
   by_cases ek:q=k
   ·subst ek;rw[List.getD_eq_getElem?_getD,List.getElem?_set_self hq];exact⟨y0,y1⟩
   ·rw[List.getD_eq_getElem?_getD,List.getElem?_set_ne ek,←List.getD_eq_getElem?_getD];exact h.mb k
theorem MSt.setMs(l:List Int):∀(c:Mac) (w:World) (h:MSt base T M mv x z fl c w) {D cap:Nat} (hmv:mv= .slice (some ⟨D,0,none⟩) c.m.length cap) {q:Nat} (hq:q+l.length≤c.m.length) (hy:∀y∈l,0≤y∧y<256),MSt base T M mv x z fl {c with m:=x7 c.m q l} (w.setCells D q (l.map (Value.int .u8)))∧Ch T M mv w (w.setCells D q (l.map (Value.int .u8))):=by
 induction l with
 |nil=>intro c w h D cap hmv q hq hy;exact⟨h,Ch.refl _ _ _ _⟩
 |cons y l ih=>
  intro c w h D cap hmv q hq hy;rw[List.length_cons]at hq;have h1:=h.setM1 hmv (q:=q) (by omega) (hy y (by simp)).1 (hy y (by simp)).2;have h2:=ih {c with m:=c.m.set q y} _ h1 (D:=D) (cap:=cap) (by rw[hmv];simp) (q:=q+1) (by simp;omega) (fun y' hy'=>hy y' (by simp[hy']));exact⟨h2.1,((Ch.refl _ _ _ _).setD (by rw[hmv];rfl) q _).trans h2.2⟩
theorem A0v(k:Nat):∀(n:Int),∀y∈leB n k,0≤y∧y<256:=by
 induction k with
 |zero=>intro n y hy;exact absurd hy (by simp[leB])
 |succ k ih=>
  intro n y hy;rw[leB,List.mem_cons]at hy;rcases hy with rfl|hy
  ·omega
  ·exact ih _ y hy
theorem J9(k:Nat):∀(n:Int),(leB n k).length=k:=by
 induction k with
 |zero=>intro n;rfl
 |succ k ih=>intro n;rw[leB,List.length_cons,ih]
theorem A7k(b o j:Nat):(⟨b,o,none⟩:Addr).add j=⟨b,o+j,none⟩:=by by_cases hj:j=0<;>simp[Addr.add,hj]
theorem Y5(w:World)(D q k cap:Nat)(v2:Value)(l:List Int)(ty:TypeId)(hl:l.length=k)(hk:0<k)(hv:Ints .u8 w v2 l)(hd:∀j,j<k→(w.cell? ⟨D,q+j,none⟩).isSome=true)(hf:∀j,j<k→w.frozen? ⟨D,q+j,none⟩=false):
  (Builtin.copy_ #[28,28] ty #[.slice (some ⟨D,q,none⟩) k cap,v2]).run prog w= .ok (goInt k) (w.setCells D q (l.map (Value.int .u8))):=by
 obtain⟨a,c',rfl,h1,h2,h3,h4⟩:=hv;obtain⟨b,o,e,hb,hc⟩:=h4 0 (by omega);subst e;have:=run_copy_cells (P:=prog) w 28 28 ty 5 D q k cap ⟨b,o,none⟩ l.length c' (l.map (Value.int .u8)) (by kernel_rfl) (by kernel_rfl) (by rw[List.length_map,hl];exact(Nat.min_self k).symm) (fun j v hj=>by
  rw[List.getElem?_map]at hj;cases hx:l[j]? with
  |none=>rw[hx]at hj;cases hj
  |some y=>
   rw[hx]at hj;cases hj;have hjl:=(List.getElem?_eq_some_iff.1 hx).1;obtain⟨b2,o2,e2,hb2,hc2⟩:=h4 j hjl;cases e2;rw[Nat.mul_one]at hc2;rw[A7k,hc2,List.getD_eq_getElem?_getD,hx];rfl) (fun j hj=>hd j (by simpa[hl]using hj)) (fun j hj=>hf j (by simpa[hl]using hj)) (fun v hv=>by
  obtain⟨y,_,rfl⟩:=List.mem_map.1 hv;rfl)
 rw[List.length_map,hl]at this;rw[hl];exact this
end
section
variable {base T M : Nat} {mv : Value} {x : Ins} {z : Int} {fl fl' : Bool} {c c' : Mac} {B : Nat} {o d s xz xi : Int} {w wk wk' : World}
def XM(base T M:Nat)(mv:Value)(x:Ins)(z:Int)(B:Nat)(o d s xz xi:Int)(w:World)(r:List Int)(wk:World):Prop:=∃fl c,XC base T M mv x z B o d s xz xi w fl c wk∧c.r=r
theorem XC.toM(h:XC base T M mv x z B o d s xz xi w fl c wk):XM base T M mv x z B o d s xz xi w c.r wk:=⟨_,_,h,rfl⟩
theorem XM.toS{r:List Int}(h:XM base T M mv x z B o d s xz xi w r wk):XS base T M mv x z B o d s xz xi w wk:=by obtain⟨fl,c,h,_⟩:=h;exact⟨fl,c,h⟩
theorem XM.reg{r:List Int}{s':Nat}(hs:s'<32)(h:XM base T M mv x z B o d s xz xi w r wk):wk.cell? ⟨M,s',none⟩=some (.int .u32 (r.getD s' 0)):=by obtain⟨fl,c,h,rfl⟩:=h;exact(h.m.reg hs).1
theorem XM.ptr{r:List Int}(h:XM base T M mv x z B o d s xz xi w r wk):wk.cell? ⟨T,0,none⟩=some (.pointer (some ⟨M,0,none⟩)):=by obtain⟨fl,c,h,rfl⟩:=h;exact h.m.ptr
theorem XM.sz{r:List Int}(h:XM base T M mv x z B o d s xz xi w r wk):wk.cell? ⟨T,6,none⟩=some (.int .i64 z):=by obtain⟨fl,c,h,rfl⟩:=h;exact h.m.sz
theorem XC.setCs(h:XC base T M mv x z B o d s xz xi w fl c wk)(g q:Nat)(vs:List Value)(h1:g≠T)(h2:g≠M)(h3:mv.ownBlock≠some g)(h4:B≠g)(h5:w.heap.size≤g):XC base T M mv x z B o d s xz xi w fl c (wk.setCells g q vs):=by
 induction vs generalizing wk q with
 |nil=>exact h
 |cons v vs ih=>
  refine ih ?_ _;have hv:B3B base T M (wk.setCell ⟨g,q,none⟩ v) mv c.m:=by
   rcases h.m.v with he|⟨D,cap,e,a1,a2,a3,a4,a5,a6⟩
   ·exact Or.inl he
   ·have hD:D≠g:=fun e'=>h3 (by rw[e,e'];rfl)
    refine Or.inr ⟨D,cap,e,a1,a2,a3,a4,a5,by simpa using a6.1,fun i hi=>⟨?_,by rw[World.frozen?_setCell];exact a6.free hi⟩⟩;rw[World.cell?_setCell_other _ _ _ _ (by intro hh;cases hh;exact hD rfl)];exact a6.cell hi
  have hm:MSt base T M mv x z fl c (wk.setCell ⟨g,q,none⟩ v):={h.m with t:=h.m.t.other (Ne.symm h1) _,m:=h.m.m.other (Ne.symm h2) _,v:=hv}
  exact⟨hm,h.b.setNe h4 _ _,h.nt,h.nm,h.no,⟨h.ch.os,h.ch.tape,h.ch.output,Nat.le_trans h.ch.size (by simp[World.setCell]),fun k hk a b cc=>by
   by_cases e:k=g
   ·subst e;omega
   ·exact(Below.heap_setCell wk ⟨g,q,none⟩ v k e).trans (h.ch.block k hk a b cc)⟩⟩
end
section
variable {base T M : Nat} {mv : Value} {x : Ins} {z : Int} {fl : Bool} {c : Mac}
theorem A5C(d s:Nat)(hd:d<32)(hs:s<32)(w:World)(h:MSt base T M mv x z fl c w)(hxo:x.o=6)(hxd:x.d=(d:Int))(hxs:x.s=(s:Int))(D cap:Nat)(hmv:mv= .slice (some ⟨D,0,none⟩) c.m.length cap)(hcap:c.m.length≤cap)(hc2:cap≤9223372036854775807)(q:Nat)(hq:atM c d x.i=(q:Int))(hgood:q+1≤c.m.length):Calls prog 116 #[.pointer (some ⟨T,0,none⟩)] w fun e w'=>e= .returned (.tuple #[])∧MSt base T M mv x z fl {c with m:=x7 c.m q (leB (c.r.getD s 0) 1)} w'∧Ch T M mv w w':=by
 have x1:=h.xo;have x2:=h.xd;have x3:=h.xs;have x4:=h.xz;have x5:=h.xi;rw[hxo]at x1;rw[hxd]at x2;rw[hxs]at x3;have hT:=h.ltT;have hne:T≠w.heap.size:=by omega
 have hpw:=D8 h.zz;have hs1:(s:Int)<32:=by omega
 have bs:=h.rb s;have i6:I64 (c.r.getD s 0):=by unfold I64;omega
 have hw6:Value.int .i64 (c.r.getD s 0)=Value.int .i64 (IntKind.i64.wrap (c.r.getD s 0)):=congrArg _ (show IntKind.i64.wrap _=_ by rw[IntKind.wrap_i64];unfold I64 at i6;omega).symm;have CN:=hid (fun wk=>by have h9:=I8 (c.r.getD s 0) 1 wk i6 (by decide);rw[hw6]at h9;exact(show Calls _ _ #[_,.int .i64 1] wk _ from h9));clear hw6;have CM:=hid (fun wk (hk:XC base T M mv x z w.heap.size 6 (d:Int) (s:Int) x.z x.i w fl c wk)=>XC.liftD hk (show Calls _ _ #[_,_,.int .i64 1] wk _ from P5 d 1 hd (by decide) (by decide) wk hk.m D cap hmv hcap hc2 q hq hgood));have CC:=hid (fun wk v2 (hk:XC base T M mv x z w.heap.size 6 (d:Int) (s:Int) x.z x.i w fl c wk) (hr:RowI wk w.heap.size 5 .u8 v2 (leB (c.r.getD s 0) 1))=>show(∀ty,(Builtin.copy_ #[28,28] ty #[.slice (some ⟨D,q,none⟩) 1 (cap-q),v2]).run prog wk= .ok (goInt 1) (wk.setCells D q ((leB (c.r.getD s 0) 1).map (Value.int .u8))))∧XC base T M mv x z w.heap.size 6 (d:Int) (s:Int) x.z x.i w fl {c with m:=x7 c.m q (leB (c.r.getD s 0) 1)} (wk.setCells D q ((leB (c.r.getD s 0) 1).map (Value.int .u8)))from by
  have hO:OInts .u8 wk D c.m:=by
   rcases hk.m.v with⟨e,_⟩|⟨D',cap',e,h1,h2,h3,h4,h5,h6⟩
   ·rw[e]at hgood;simp at hgood
   ·have e2:=hmv.symm.trans e;injection e2 with e3 e4 e5
    injection e3 with e6
    injection e6 with e7
    subst e7;exact h6
  have hS:=MSt.setMs (leB (c.r.getD s 0) 1) c wk hk.m hmv (q:=q) (by rw[J9];exact hgood) (A0v 1 _);exact⟨fun ty=>Y5 wk D q 1 (cap-q) v2 (leB (c.r.getD s 0) 1) ty (J9 _ _) (by decide) (hr.ints (by rw[J9];decide)) (fun j hj=>by rw[hO.cell (by omega)];rfl) (fun j hj=>hO.free (by omega)),hk.next hS.1 hS.2⟩)
 clear hmv hq i6;generalize hn:x7 c.m q (leB (c.r.getD s 0) 1)=nm at*
 clear hn;generalize x.z=xz at*
 generalize x.i=xi at*
 have hX:=XC.new h 6 (d:Int) (s:Int) xz xi;have Hrs:=hid (fun wk (hk:XM base T M mv x z w.heap.size 6 (d:Int) (s:Int) xz xi w c.r wk)=>XM.reg hs hk);have hcr:c.r=c.r:=rfl;generalize c.r.getD s 0=vs at*
 clear h;go_enter func116,ntmps116;go_upto_region 15 with fail
 generalize(w.alloc (.cells #[.int .i64 6,.int .i64 (d:Int),.int .i64 (s:Int),.int .i64 xz,.int .i64 xi] 89))=wa at*
 generalize w.heap.size=B at*
 have rd:∀wk,XM base T M mv x z B 6 (d:Int) (s:Int) xz xi w c.r wk→wk.cell? ⟨B,1,none⟩=some (.int .i64 (d:Int)):=fun wk h=>h.toS.rd
 have rs:∀wk,XM base T M mv x z B 6 (d:Int) (s:Int) xz xi w c.r wk→wk.cell? ⟨B,2,none⟩=some (.int .i64 (s:Int)):=fun wk h=>h.toS.rs
 have rz:∀wk,XM base T M mv x z B 6 (d:Int) (s:Int) xz xi w c.r wk→wk.cell? ⟨T,6,none⟩=some (.int .i64 z):=fun wk h=>h.sz
 have rp:∀wk,XM base T M mv x z B 6 (d:Int) (s:Int) xz xi w c.r wk→wk.cell? ⟨T,0,none⟩=some (.pointer (some ⟨M,0,none⟩)):=fun wk h=>h.ptr
 have rv:∀wk,XM base T M mv x z B 6 (d:Int) (s:Int) xz xi w c.r wk→wk.cell? ⟨M,s,none⟩=some (.int .u32 vs):=fun wk h=>Hrs.out _ h
 have rl:∀wk,XM base T M mv x z B 6 (d:Int) (s:Int) xz xi w c.r wk→B<wk.heap.size:=fun wk h=>h.toS.rl
 refine wp_region_held_drew (S:=(XM base T M mv x z B 6 (d:Int) (s:Int) xz xi w c.r)) (by kernel_rfl) ?_ (fun hHeld=>?_)
 ·exact A0N
 refine tk 0 ?_;refine tk 1 ?_;refine tk 2 ?_;refine tk 4 ?_;refine tk 5 ?_;refine tk 6 ?_;refine tk 7 ?_;refine tk 8 ?_;refine tk 9 ?_;refine tk 10 ?_;refine tk 11 ?_;refine tk 12 ?_;refine tk 13 ?_;refine tk 14 ?_;refine rd1 3 (fun K hK=>?_)
 (go_simp;first|((go_at_call 162;with_reducible refine(CM.out _ (by first|assumption|exact XC.drew (by assumption)|exact XC.drewN (by assumption) _)).mono ?_);rintro e w1 ⟨rfl,hm1⟩)|((with_reducible refine(CN.out _).mono ?_);rintro e w2 ⟨v2,rfl,hr,hb⟩;have hm2:=XC.next hm1 (hm1.m.same hb) (Ch.of_below hb);obtain⟨hrun,hm9⟩:=CC.out _ _ hm2 (hr.mono (by have:=XC.b hm1;exact Nat.le_of_lt (Box5.lt this)))))
 refine hK.out _ _ ?_ (fun hHeld=>?_)
 ·exact A0N
 clear hK K
 try go_frame
 refine rd1 15 (fun K hK=>?_)
 (go_simp;first|((go_at_call 162;with_reducible refine(CM.out _ (by first|assumption|exact XC.drew (by assumption)|exact XC.drewN (by assumption) _)).mono ?_);rintro e w1 ⟨rfl,hm1⟩)|((with_reducible refine(CN.out _).mono ?_);rintro e w2 ⟨v2,rfl,hr,hb⟩;have hm2:=XC.next hm1 (hm1.m.same hb) (Ch.of_below hb);obtain⟨hrun,hm9⟩:=CC.out _ _ hm2 (hr.mono (by have:=XC.b hm1;exact Nat.le_of_lt (Box5.lt this)))))
 exact B0E
theorem A1J(d s:Nat)(hd:d<32)(hs:s<32)(w:World)(h:MSt base T M mv x 16 fl c w)(hxo:x.o=3)(hxd:x.d=(d:Int))(hxs:x.s=(s:Int))(D cap:Nat)(hmv:mv= .slice (some ⟨D,0,none⟩) c.m.length cap)(hcap:c.m.length≤cap)(hc2:cap≤9223372036854775807)(q:Nat)(hq:atM c d x.i=(q:Int))(hgood:q+2≤c.m.length):Calls prog 116 #[.pointer (some ⟨T,0,none⟩)] w fun e w'=>e= .returned (.tuple #[])∧MSt base T M mv x 16 fl {c with m:=x7 c.m q (leB (c.r.getD s 0) 2)} w'∧Ch T M mv w w':=by
 have x1:=h.xo;have x2:=h.xd;have x3:=h.xs;have x4:=h.xz;have x5:=h.xi;rw[hxo]at x1;rw[hxd]at x2;rw[hxs]at x3;have hT:=h.ltT;have hne:T≠w.heap.size:=by omega
 have hpw:=D8 h.zz;have hs1:(s:Int)<32:=by omega
 have bs:=h.rb s;have i6:I64 (c.r.getD s 0):=by unfold I64;omega
 have hw6:Value.int .i64 (c.r.getD s 0)=Value.int .i64 (IntKind.i64.wrap (c.r.getD s 0)):=congrArg _ (show IntKind.i64.wrap _=_ by rw[IntKind.wrap_i64];unfold I64 at i6;omega).symm;have CN:=hid (fun wk=>by have h9:=I8 (c.r.getD s 0) 2 wk i6 (by decide);rw[hw6]at h9;exact(show Calls _ _ #[_,.int .i64 (IntKind.i64.wrap 2)] wk _ from h9));clear hw6;have CM:=hid (fun wk (hk:XC base T M mv x 16 w.heap.size 3 (d:Int) (s:Int) x.z x.i w fl c wk)=>XC.liftD hk (show Calls _ _ #[_,_,.int .i64 (IntKind.i64.wrap 2)] wk _ from P5 d 2 hd (by decide) (by decide) wk hk.m D cap hmv hcap hc2 q hq hgood));have CC:=hid (fun wk v2 (hk:XC base T M mv x 16 w.heap.size 3 (d:Int) (s:Int) x.z x.i w fl c wk) (hr:RowI wk w.heap.size 5 .u8 v2 (leB (c.r.getD s 0) 2))=>show(∀ty,(Builtin.copy_ #[28,28] ty #[.slice (some ⟨D,q,none⟩) 2 (cap-q),v2]).run prog wk= .ok (goInt 2) (wk.setCells D q ((leB (c.r.getD s 0) 2).map (Value.int .u8))))∧XC base T M mv x 16 w.heap.size 3 (d:Int) (s:Int) x.z x.i w fl {c with m:=x7 c.m q (leB (c.r.getD s 0) 2)} (wk.setCells D q ((leB (c.r.getD s 0) 2).map (Value.int .u8)))from by
  have hO:OInts .u8 wk D c.m:=by
   rcases hk.m.v with⟨e,_⟩|⟨D',cap',e,h1,h2,h3,h4,h5,h6⟩
   ·rw[e]at hgood;simp at hgood
   ·have e2:=hmv.symm.trans e;injection e2 with e3 e4 e5
    injection e3 with e6
    injection e6 with e7
    subst e7;exact h6
  have hS:=MSt.setMs (leB (c.r.getD s 0) 2) c wk hk.m hmv (q:=q) (by rw[J9];exact hgood) (A0v 2 _);exact⟨fun ty=>Y5 wk D q 2 (cap-q) v2 (leB (c.r.getD s 0) 2) ty (J9 _ _) (by decide) (hr.ints (by rw[J9];decide)) (fun j hj=>by rw[hO.cell (by omega)];rfl) (fun j hj=>hO.free (by omega)),hk.next hS.1 hS.2⟩)
 clear hmv hq i6;generalize hn:x7 c.m q (leB (c.r.getD s 0) 2)=nm at*
 clear hn;generalize x.z=xz at*
 generalize x.i=xi at*
 have hX:=XC.new h 3 (d:Int) (s:Int) xz xi;have Hrs:=hid (fun wk (hk:XM base T M mv x 16 w.heap.size 3 (d:Int) (s:Int) xz xi w c.r wk)=>XM.reg hs hk);have hcr:c.r=c.r:=rfl;generalize c.r.getD s 0=vs at*
 clear h;go_enter func116,ntmps116;go_upto_region 13 with fail
 generalize(w.alloc (.cells #[.int .i64 3,.int .i64 (d:Int),.int .i64 (s:Int),.int .i64 xz,.int .i64 xi] 89))=wa at*
 generalize w.heap.size=B at*
 have rd:∀wk,XM base T M mv x 16 B 3 (d:Int) (s:Int) xz xi w c.r wk→wk.cell? ⟨B,1,none⟩=some (.int .i64 (d:Int)):=fun wk h=>h.toS.rd
 have rs:∀wk,XM base T M mv x 16 B 3 (d:Int) (s:Int) xz xi w c.r wk→wk.cell? ⟨B,2,none⟩=some (.int .i64 (s:Int)):=fun wk h=>h.toS.rs
 have rz:∀wk,XM base T M mv x 16 B 3 (d:Int) (s:Int) xz xi w c.r wk→wk.cell? ⟨T,6,none⟩=some (.int .i64 16):=fun wk h=>h.sz
 have rp:∀wk,XM base T M mv x 16 B 3 (d:Int) (s:Int) xz xi w c.r wk→wk.cell? ⟨T,0,none⟩=some (.pointer (some ⟨M,0,none⟩)):=fun wk h=>h.ptr
 have rv:∀wk,XM base T M mv x 16 B 3 (d:Int) (s:Int) xz xi w c.r wk→wk.cell? ⟨M,s,none⟩=some (.int .u32 vs):=fun wk h=>Hrs.out _ h
 have rl:∀wk,XM base T M mv x 16 B 3 (d:Int) (s:Int) xz xi w c.r wk→B<wk.heap.size:=fun wk h=>h.toS.rl
 refine wp_region_held_drew (S:=(XM base T M mv x 16 B 3 (d:Int) (s:Int) xz xi w c.r)) (by kernel_rfl) ?_ (fun hHeld=>?_)
 ·exact A0N
 exact B4G
theorem A1I(d s:Nat)(hd:d<32)(hs:s<32)(w:World)(h:MSt base T M mv x 32 fl c w)(hxo:x.o=3)(hxd:x.d=(d:Int))(hxs:x.s=(s:Int))(D cap:Nat)(hmv:mv= .slice (some ⟨D,0,none⟩) c.m.length cap)(hcap:c.m.length≤cap)(hc2:cap≤9223372036854775807)(q:Nat)(hq:atM c d x.i=(q:Int))(hgood:q+4≤c.m.length):Calls prog 116 #[.pointer (some ⟨T,0,none⟩)] w fun e w'=>e= .returned (.tuple #[])∧MSt base T M mv x 32 fl {c with m:=x7 c.m q (leB (c.r.getD s 0) 4)} w'∧Ch T M mv w w':=by
 have x1:=h.xo;have x2:=h.xd;have x3:=h.xs;have x4:=h.xz;have x5:=h.xi;rw[hxo]at x1;rw[hxd]at x2;rw[hxs]at x3;have hT:=h.ltT;have hne:T≠w.heap.size:=by omega
 have hpw:=D8 h.zz;have hs1:(s:Int)<32:=by omega
 have bs:=h.rb s;have i6:I64 (c.r.getD s 0):=by unfold I64;omega
 have hw6:Value.int .i64 (c.r.getD s 0)=Value.int .i64 (IntKind.i64.wrap (c.r.getD s 0)):=congrArg _ (show IntKind.i64.wrap _=_ by rw[IntKind.wrap_i64];unfold I64 at i6;omega).symm;have CN:=hid (fun wk=>by have h9:=I8 (c.r.getD s 0) 4 wk i6 (by decide);rw[hw6]at h9;exact(show Calls _ _ #[_,.int .i64 (IntKind.i64.wrap 4)] wk _ from h9));clear hw6;have CM:=hid (fun wk (hk:XC base T M mv x 32 w.heap.size 3 (d:Int) (s:Int) x.z x.i w fl c wk)=>XC.liftD hk (show Calls _ _ #[_,_,.int .i64 (IntKind.i64.wrap 4)] wk _ from P5 d 4 hd (by decide) (by decide) wk hk.m D cap hmv hcap hc2 q hq hgood));have CC:=hid (fun wk v2 (hk:XC base T M mv x 32 w.heap.size 3 (d:Int) (s:Int) x.z x.i w fl c wk) (hr:RowI wk w.heap.size 5 .u8 v2 (leB (c.r.getD s 0) 4))=>show(∀ty,(Builtin.copy_ #[28,28] ty #[.slice (some ⟨D,q,none⟩) 4 (cap-q),v2]).run prog wk= .ok (goInt 4) (wk.setCells D q ((leB (c.r.getD s 0) 4).map (Value.int .u8))))∧XC base T M mv x 32 w.heap.size 3 (d:Int) (s:Int) x.z x.i w fl {c with m:=x7 c.m q (leB (c.r.getD s 0) 4)} (wk.setCells D q ((leB (c.r.getD s 0) 4).map (Value.int .u8)))from by
  have hO:OInts .u8 wk D c.m:=by
   rcases hk.m.v with⟨e,_⟩|⟨D',cap',e,h1,h2,h3,h4,h5,h6⟩
   ·rw[e]at hgood;simp at hgood
   ·have e2:=hmv.symm.trans e;injection e2 with e3 e4 e5
    injection e3 with e6
    injection e6 with e7
    subst e7;exact h6
  have hS:=MSt.setMs (leB (c.r.getD s 0) 4) c wk hk.m hmv (q:=q) (by rw[J9];exact hgood) (A0v 4 _);exact⟨fun ty=>Y5 wk D q 4 (cap-q) v2 (leB (c.r.getD s 0) 4) ty (J9 _ _) (by decide) (hr.ints (by rw[J9];decide)) (fun j hj=>by rw[hO.cell (by omega)];rfl) (fun j hj=>hO.free (by omega)),hk.next hS.1 hS.2⟩)
 clear hmv hq i6;generalize hn:x7 c.m q (leB (c.r.getD s 0) 4)=nm at*
 clear hn;generalize x.z=xz at*
 generalize x.i=xi at*
 have hX:=XC.new h 3 (d:Int) (s:Int) xz xi;have Hrs:=hid (fun wk (hk:XM base T M mv x 32 w.heap.size 3 (d:Int) (s:Int) xz xi w c.r wk)=>XM.reg hs hk);have hcr:c.r=c.r:=rfl;generalize c.r.getD s 0=vs at*
 clear h;go_enter func116,ntmps116;go_upto_region 13 with fail
 generalize(w.alloc (.cells #[.int .i64 3,.int .i64 (d:Int),.int .i64 (s:Int),.int .i64 xz,.int .i64 xi] 89))=wa at*
 generalize w.heap.size=B at*
 have rd:∀wk,XM base T M mv x 32 B 3 (d:Int) (s:Int) xz xi w c.r wk→wk.cell? ⟨B,1,none⟩=some (.int .i64 (d:Int)):=fun wk h=>h.toS.rd
 have rs:∀wk,XM base T M mv x 32 B 3 (d:Int) (s:Int) xz xi w c.r wk→wk.cell? ⟨B,2,none⟩=some (.int .i64 (s:Int)):=fun wk h=>h.toS.rs
 have rz:∀wk,XM base T M mv x 32 B 3 (d:Int) (s:Int) xz xi w c.r wk→wk.cell? ⟨T,6,none⟩=some (.int .i64 32):=fun wk h=>h.sz
 have rp:∀wk,XM base T M mv x 32 B 3 (d:Int) (s:Int) xz xi w c.r wk→wk.cell? ⟨T,0,none⟩=some (.pointer (some ⟨M,0,none⟩)):=fun wk h=>h.ptr
 have rv:∀wk,XM base T M mv x 32 B 3 (d:Int) (s:Int) xz xi w c.r wk→wk.cell? ⟨M,s,none⟩=some (.int .u32 vs):=fun wk h=>Hrs.out _ h
 have rl:∀wk,XM base T M mv x 32 B 3 (d:Int) (s:Int) xz xi w c.r wk→B<wk.heap.size:=fun wk h=>h.toS.rl
 refine wp_region_held_drew (S:=(XM base T M mv x 32 B 3 (d:Int) (s:Int) xz xi w c.r)) (by kernel_rfl) ?_ (fun hHeld=>?_)
 ·exact A0N
 exact B4G
theorem A3V(d s:Nat)(hd:d<32)(hs:s<32)(w:World)(h:MSt base T M mv x z fl c w)(hxo:x.o=6)(hxd:x.d=(d:Int))(hxs:x.s=(s:Int))(hi:I64 x.i)(hbad:(c.m.length:Int)<atM c d x.i+1):Calls prog 116 #[.pointer (some ⟨T,0,none⟩)] w fun e w'=>e= .returned (.tuple #[])∧MSt base T M mv x z true c w'∧Ch T M mv w w':=by
 have x1:=h.xo;have x2:=h.xd;have x3:=h.xs;have x4:=h.xz;have x5:=h.xi;rw[hxo]at x1;rw[hxd]at x2;rw[hxs]at x3;have hT:=h.ltT;have hne:T≠w.heap.size:=by omega
 have hpw:=D8 h.zz;have hs1:(s:Int)<32:=by omega
 have bs:=h.rb s;have i6:I64 (c.r.getD s 0):=by unfold I64;omega
 have hw6:Value.int .i64 (c.r.getD s 0)=Value.int .i64 (IntKind.i64.wrap (c.r.getD s 0)):=congrArg _ (show IntKind.i64.wrap _=_ by rw[IntKind.wrap_i64];unfold I64 at i6;omega).symm;have CN:=hid (fun wk=>by have h9:=I8 (c.r.getD s 0) 1 wk i6 (by decide);rw[hw6]at h9;exact(show Calls _ _ #[_,.int .i64 1] wk _ from h9));clear hw6;have CM:=hid (fun wk (hk:XC base T M mv x z w.heap.size 6 (d:Int) (s:Int) x.z x.i w fl c wk)=>show Calls _ _ #[_,_,.int .i64 1] wk _ from N4 d 1 hd (by decide) wk hk.m hi hbad);have CC:=hid (fun wk g v2 (hk:XC base T M mv x z w.heap.size 6 (d:Int) (s:Int) x.z x.i w true c wk) (hg:w.heap.size+1≤g) (ho:OInts .u8 wk g (List.replicate 1 0)) (hr:RowI wk w.heap.size 5 .u8 v2 (leB (c.r.getD s 0) 1)) (hgT:g≠T) (hgM:g≠M) (hgD:mv.ownBlock≠some g)=>show(∀ty,(Builtin.copy_ #[28,28] ty #[.slice (some ⟨g,0,none⟩) 1 1,v2]).run prog wk= .ok (goInt 1) (wk.setCells g 0 ((leB (c.r.getD s 0) 1).map (Value.int .u8))))∧XC base T M mv x z w.heap.size 6 (d:Int) (s:Int) x.z x.i w true c (wk.setCells g 0 ((leB (c.r.getD s 0) 1).map (Value.int .u8)))from by
  have ho2:∀j,j<1→(wk.cell? ⟨g,0+j,none⟩).isSome=true∧wk.frozen? ⟨g,0+j,none⟩=false:=fun j hj=>by
   rw[Nat.zero_add,ho.cell (by simpa using hj)];exact⟨rfl,ho.free (by simpa using hj)⟩
  exact⟨fun ty=>Y5 wk g 0 1 1 v2 (leB (c.r.getD s 0) 1) ty (J9 _ _) (by decide) (hr.ints (by rw[J9];decide)) (fun j hj=>(ho2 j hj).1) (fun j hj=>(ho2 j hj).2),XC.setCs hk g 0 _ hgT hgM hgD (by omega) (by omega)⟩)
 clear hi hbad i6;generalize x.z=xz at*
 generalize x.i=xi at*
 have hX:=XC.new h 6 (d:Int) (s:Int) xz xi;have Hrs:=hid (fun wk (hk:XM base T M mv x z w.heap.size 6 (d:Int) (s:Int) xz xi w c.r wk)=>XM.reg hs hk);have hcr:c.r=c.r:=rfl;generalize c.r.getD s 0=vs at*
 clear h;go_enter func116,ntmps116;go_upto_region 15 with fail
 generalize(w.alloc (.cells #[.int .i64 6,.int .i64 (d:Int),.int .i64 (s:Int),.int .i64 xz,.int .i64 xi] 89))=wa at*
 generalize w.heap.size=B at*
 have rd:∀wk,XM base T M mv x z B 6 (d:Int) (s:Int) xz xi w c.r wk→wk.cell? ⟨B,1,none⟩=some (.int .i64 (d:Int)):=fun wk h=>h.toS.rd
 have rs:∀wk,XM base T M mv x z B 6 (d:Int) (s:Int) xz xi w c.r wk→wk.cell? ⟨B,2,none⟩=some (.int .i64 (s:Int)):=fun wk h=>h.toS.rs
 have rz:∀wk,XM base T M mv x z B 6 (d:Int) (s:Int) xz xi w c.r wk→wk.cell? ⟨T,6,none⟩=some (.int .i64 z):=fun wk h=>h.sz
 have rp:∀wk,XM base T M mv x z B 6 (d:Int) (s:Int) xz xi w c.r wk→wk.cell? ⟨T,0,none⟩=some (.pointer (some ⟨M,0,none⟩)):=fun wk h=>h.ptr
 have rv:∀wk,XM base T M mv x z B 6 (d:Int) (s:Int) xz xi w c.r wk→wk.cell? ⟨M,s,none⟩=some (.int .u32 vs):=fun wk h=>Hrs.out _ h
 have rl:∀wk,XM base T M mv x z B 6 (d:Int) (s:Int) xz xi w c.r wk→B<wk.heap.size:=fun wk h=>h.toS.rl
 refine wp_region_held_drew (S:=(XM base T M mv x z B 6 (d:Int) (s:Int) xz xi w c.r)) (by kernel_rfl) ?_ (fun hHeld=>?_)
 ·exact A0N
 refine tk 0 ?_;refine tk 1 ?_;refine tk 2 ?_;refine tk 4 ?_;refine tk 5 ?_;refine tk 6 ?_;refine tk 7 ?_;refine tk 8 ?_;refine tk 9 ?_;refine tk 10 ?_;refine tk 11 ?_;refine tk 12 ?_;refine tk 13 ?_;refine tk 14 ?_;refine rd1 3 (fun K hK=>?_)
 (go_simp;first|((go_at_call 162;with_reducible refine(CM.out _ (by first|assumption|exact XC.drew (by assumption)|exact XC.drewN (by assumption) _)).mono ?_);rintro e w1 ⟨g,rfl,ho,hg,hm,hc⟩;have hm1:=XC.next (by first|assumption|exact XC.drew (by assumption)) hm hc;have ho1:=hid ho;have hg2:wa.heap.size≤g:=hg;clear hm hc ho)|((with_reducible refine(CN.out _).mono ?_);rintro e w2 ⟨v2,rfl,hr,hb⟩;have hm2:=XC.next hm1 (hm1.m.same hb) (Ch.of_below hb);obtain⟨hrun,hm9⟩:=CC.out _ g _ hm2 (by have:=hX.b.lt;omega) (ho1.out.below hb) (hr.mono (by have:=XC.b hm1;exact Nat.le_of_lt (Box5.lt this))) (by have:=hX.m.ltT;omega) (by have:=hX.m.ltM;omega) (fun e=>by have:=(hX.m.own _ e).2;omega)))
 refine hK.out _ _ ?_ (fun hHeld=>?_)
 ·exact A0N
 clear hK K
 try go_frame
 refine rd1 15 (fun K hK=>?_)
 (go_simp;first|((go_at_call 162;with_reducible refine(CM.out _ (by first|assumption|exact XC.drew (by assumption)|exact XC.drewN (by assumption) _)).mono ?_);rintro e w1 ⟨g,rfl,ho,hg,hm,hc⟩;have hm1:=XC.next (by first|assumption|exact XC.drew (by assumption)) hm hc;have ho1:=hid ho;have hg2:wa.heap.size≤g:=hg;clear hm hc ho)|((with_reducible refine(CN.out _).mono ?_);rintro e w2 ⟨v2,rfl,hr,hb⟩;have hm2:=XC.next hm1 (hm1.m.same hb) (Ch.of_below hb);obtain⟨hrun,hm9⟩:=CC.out _ g _ hm2 (by have:=hX.b.lt;omega) (ho1.out.below hb) (hr.mono (by have:=XC.b hm1;exact Nat.le_of_lt (Box5.lt this))) (by have:=hX.m.ltT;omega) (by have:=hX.m.ltM;omega) (fun e=>by have:=(hX.m.own _ e).2;omega)))
 exact B0E
theorem A0Q(d s:Nat)(hd:d<32)(hs:s<32)(w:World)(h:MSt base T M mv x 16 fl c w)(hxo:x.o=3)(hxd:x.d=(d:Int))(hxs:x.s=(s:Int))(hi:I64 x.i)(hbad:(c.m.length:Int)<atM c d x.i+2):Calls prog 116 #[.pointer (some ⟨T,0,none⟩)] w fun e w'=>e= .returned (.tuple #[])∧MSt base T M mv x 16 true c w'∧Ch T M mv w w':=by
 have x1:=h.xo;have x2:=h.xd;have x3:=h.xs;have x4:=h.xz;have x5:=h.xi;rw[hxo]at x1;rw[hxd]at x2;rw[hxs]at x3;have hT:=h.ltT;have hne:T≠w.heap.size:=by omega
 have hpw:=D8 h.zz;have hs1:(s:Int)<32:=by omega
 have bs:=h.rb s;have i6:I64 (c.r.getD s 0):=by unfold I64;omega
 have hw6:Value.int .i64 (c.r.getD s 0)=Value.int .i64 (IntKind.i64.wrap (c.r.getD s 0)):=congrArg _ (show IntKind.i64.wrap _=_ by rw[IntKind.wrap_i64];unfold I64 at i6;omega).symm;have CN:=hid (fun wk=>by have h9:=I8 (c.r.getD s 0) 2 wk i6 (by decide);rw[hw6]at h9;exact(show Calls _ _ #[_,.int .i64 (IntKind.i64.wrap 2)] wk _ from h9));clear hw6;have CM:=hid (fun wk (hk:XC base T M mv x 16 w.heap.size 3 (d:Int) (s:Int) x.z x.i w fl c wk)=>show Calls _ _ #[_,_,.int .i64 (IntKind.i64.wrap 2)] wk _ from N4 d 2 hd (by decide) wk hk.m hi hbad);have CC:=hid (fun wk g v2 (hk:XC base T M mv x 16 w.heap.size 3 (d:Int) (s:Int) x.z x.i w true c wk) (hg:w.heap.size+1≤g) (ho:OInts .u8 wk g (List.replicate 2 0)) (hr:RowI wk w.heap.size 5 .u8 v2 (leB (c.r.getD s 0) 2)) (hgT:g≠T) (hgM:g≠M) (hgD:mv.ownBlock≠some g)=>show(∀ty,(Builtin.copy_ #[28,28] ty #[.slice (some ⟨g,0,none⟩) 2 2,v2]).run prog wk= .ok (goInt 2) (wk.setCells g 0 ((leB (c.r.getD s 0) 2).map (Value.int .u8))))∧XC base T M mv x 16 w.heap.size 3 (d:Int) (s:Int) x.z x.i w true c (wk.setCells g 0 ((leB (c.r.getD s 0) 2).map (Value.int .u8)))from by
  have ho2:∀j,j<2→(wk.cell? ⟨g,0+j,none⟩).isSome=true∧wk.frozen? ⟨g,0+j,none⟩=false:=fun j hj=>by
   rw[Nat.zero_add,ho.cell (by simpa using hj)];exact⟨rfl,ho.free (by simpa using hj)⟩
  exact⟨fun ty=>Y5 wk g 0 2 2 v2 (leB (c.r.getD s 0) 2) ty (J9 _ _) (by decide) (hr.ints (by rw[J9];decide)) (fun j hj=>(ho2 j hj).1) (fun j hj=>(ho2 j hj).2),XC.setCs hk g 0 _ hgT hgM hgD (by omega) (by omega)⟩)
 clear hi hbad i6;generalize x.z=xz at*
 generalize x.i=xi at*
 have hX:=XC.new h 3 (d:Int) (s:Int) xz xi;have Hrs:=hid (fun wk (hk:XM base T M mv x 16 w.heap.size 3 (d:Int) (s:Int) xz xi w c.r wk)=>XM.reg hs hk);have hcr:c.r=c.r:=rfl;generalize c.r.getD s 0=vs at*
 clear h;go_enter func116,ntmps116;go_upto_region 13 with fail
 generalize(w.alloc (.cells #[.int .i64 3,.int .i64 (d:Int),.int .i64 (s:Int),.int .i64 xz,.int .i64 xi] 89))=wa at*
 generalize w.heap.size=B at*
 have rd:∀wk,XM base T M mv x 16 B 3 (d:Int) (s:Int) xz xi w c.r wk→wk.cell? ⟨B,1,none⟩=some (.int .i64 (d:Int)):=fun wk h=>h.toS.rd
 have rs:∀wk,XM base T M mv x 16 B 3 (d:Int) (s:Int) xz xi w c.r wk→wk.cell? ⟨B,2,none⟩=some (.int .i64 (s:Int)):=fun wk h=>h.toS.rs
 have rz:∀wk,XM base T M mv x 16 B 3 (d:Int) (s:Int) xz xi w c.r wk→wk.cell? ⟨T,6,none⟩=some (.int .i64 16):=fun wk h=>h.sz
 have rp:∀wk,XM base T M mv x 16 B 3 (d:Int) (s:Int) xz xi w c.r wk→wk.cell? ⟨T,0,none⟩=some (.pointer (some ⟨M,0,none⟩)):=fun wk h=>h.ptr
 have rv:∀wk,XM base T M mv x 16 B 3 (d:Int) (s:Int) xz xi w c.r wk→wk.cell? ⟨M,s,none⟩=some (.int .u32 vs):=fun wk h=>Hrs.out _ h
 have rl:∀wk,XM base T M mv x 16 B 3 (d:Int) (s:Int) xz xi w c.r wk→B<wk.heap.size:=fun wk h=>h.toS.rl
 refine wp_region_held_drew (S:=(XM base T M mv x 16 B 3 (d:Int) (s:Int) xz xi w c.r)) (by kernel_rfl) ?_ (fun hHeld=>?_)
 ·exact A0N
 exact q8z
theorem A0P(d s:Nat)(hd:d<32)(hs:s<32)(w:World)(h:MSt base T M mv x 32 fl c w)(hxo:x.o=3)(hxd:x.d=(d:Int))(hxs:x.s=(s:Int))(hi:I64 x.i)(hbad:(c.m.length:Int)<atM c d x.i+4):Calls prog 116 #[.pointer (some ⟨T,0,none⟩)] w fun e w'=>e= .returned (.tuple #[])∧MSt base T M mv x 32 true c w'∧Ch T M mv w w':=by
 have x1:=h.xo;have x2:=h.xd;have x3:=h.xs;have x4:=h.xz;have x5:=h.xi;rw[hxo]at x1;rw[hxd]at x2;rw[hxs]at x3;have hT:=h.ltT;have hne:T≠w.heap.size:=by omega
 have hpw:=D8 h.zz;have hs1:(s:Int)<32:=by omega
 have bs:=h.rb s;have i6:I64 (c.r.getD s 0):=by unfold I64;omega
 have hw6:Value.int .i64 (c.r.getD s 0)=Value.int .i64 (IntKind.i64.wrap (c.r.getD s 0)):=congrArg _ (show IntKind.i64.wrap _=_ by rw[IntKind.wrap_i64];unfold I64 at i6;omega).symm;have CN:=hid (fun wk=>by have h9:=I8 (c.r.getD s 0) 4 wk i6 (by decide);rw[hw6]at h9;exact(show Calls _ _ #[_,.int .i64 (IntKind.i64.wrap 4)] wk _ from h9));clear hw6;have CM:=hid (fun wk (hk:XC base T M mv x 32 w.heap.size 3 (d:Int) (s:Int) x.z x.i w fl c wk)=>show Calls _ _ #[_,_,.int .i64 (IntKind.i64.wrap 4)] wk _ from N4 d 4 hd (by decide) wk hk.m hi hbad);have CC:=hid (fun wk g v2 (hk:XC base T M mv x 32 w.heap.size 3 (d:Int) (s:Int) x.z x.i w true c wk) (hg:w.heap.size+1≤g) (ho:OInts .u8 wk g (List.replicate 4 0)) (hr:RowI wk w.heap.size 5 .u8 v2 (leB (c.r.getD s 0) 4)) (hgT:g≠T) (hgM:g≠M) (hgD:mv.ownBlock≠some g)=>show(∀ty,(Builtin.copy_ #[28,28] ty #[.slice (some ⟨g,0,none⟩) 4 4,v2]).run prog wk= .ok (goInt 4) (wk.setCells g 0 ((leB (c.r.getD s 0) 4).map (Value.int .u8))))∧XC base T M mv x 32 w.heap.size 3 (d:Int) (s:Int) x.z x.i w true c (wk.setCells g 0 ((leB (c.r.getD s 0) 4).map (Value.int .u8)))from by
  have ho2:∀j,j<4→(wk.cell? ⟨g,0+j,none⟩).isSome=true∧wk.frozen? ⟨g,0+j,none⟩=false:=fun j hj=>by
   rw[Nat.zero_add,ho.cell (by simpa using hj)];exact⟨rfl,ho.free (by simpa using hj)⟩
  exact⟨fun ty=>Y5 wk g 0 4 4 v2 (leB (c.r.getD s 0) 4) ty (J9 _ _) (by decide) (hr.ints (by rw[J9];decide)) (fun j hj=>(ho2 j hj).1) (fun j hj=>(ho2 j hj).2),XC.setCs hk g 0 _ hgT hgM hgD (by omega) (by omega)⟩)
 clear hi hbad i6;generalize x.z=xz at*
 generalize x.i=xi at*
 have hX:=XC.new h 3 (d:Int) (s:Int) xz xi;have Hrs:=hid (fun wk (hk:XM base T M mv x 32 w.heap.size 3 (d:Int) (s:Int) xz xi w c.r wk)=>XM.reg hs hk);have hcr:c.r=c.r:=rfl;generalize c.r.getD s 0=vs at*
 clear h;go_enter func116,ntmps116;go_upto_region 13 with fail
 generalize(w.alloc (.cells #[.int .i64 3,.int .i64 (d:Int),.int .i64 (s:Int),.int .i64 xz,.int .i64 xi] 89))=wa at*
 generalize w.heap.size=B at*
 have rd:∀wk,XM base T M mv x 32 B 3 (d:Int) (s:Int) xz xi w c.r wk→wk.cell? ⟨B,1,none⟩=some (.int .i64 (d:Int)):=fun wk h=>h.toS.rd
 have rs:∀wk,XM base T M mv x 32 B 3 (d:Int) (s:Int) xz xi w c.r wk→wk.cell? ⟨B,2,none⟩=some (.int .i64 (s:Int)):=fun wk h=>h.toS.rs
 have rz:∀wk,XM base T M mv x 32 B 3 (d:Int) (s:Int) xz xi w c.r wk→wk.cell? ⟨T,6,none⟩=some (.int .i64 32):=fun wk h=>h.sz
 have rp:∀wk,XM base T M mv x 32 B 3 (d:Int) (s:Int) xz xi w c.r wk→wk.cell? ⟨T,0,none⟩=some (.pointer (some ⟨M,0,none⟩)):=fun wk h=>h.ptr
 have rv:∀wk,XM base T M mv x 32 B 3 (d:Int) (s:Int) xz xi w c.r wk→wk.cell? ⟨M,s,none⟩=some (.int .u32 vs):=fun wk h=>Hrs.out _ h
 have rl:∀wk,XM base T M mv x 32 B 3 (d:Int) (s:Int) xz xi w c.r wk→B<wk.heap.size:=fun wk h=>h.toS.rl
 refine wp_region_held_drew (S:=(XM base T M mv x 32 B 3 (d:Int) (s:Int) xz xi w c.r)) (by kernel_rfl) ?_ (fun hHeld=>?_)
 ·exact A0N
 exact q8z
end
end Go.Proofs.YtajljbmeaeeknaaGreat
