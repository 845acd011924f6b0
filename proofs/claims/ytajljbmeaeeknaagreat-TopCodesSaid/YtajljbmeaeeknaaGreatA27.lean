/- -/
import Derived.Test.YtajljbmeaeeknaaGreatA16
import Derived.Test.YtajljbmeaeeknaaGreatA24
import Derived.Test.YtajljbmeaeeknaaGreatA26
open Go.Proofs.Tryz
open Go.Lib (hid)
set_option maxHeartbeats 1000000
set_option maxRecDepth 100000
namespace Go.Proofs.YtajljbmeaeeknaaGreat
open Go.RowKit Go.Maps
set_option linter.unusedVariables false
set_option linter.unusedSimpArgs false
theorem q9z{p:Prop}(h:p:=by
 refine tk 0 ?_;refine tk 1 ?_;refine tk 2 ?_;refine tk 3 ?_;refine tk 4 ?_;refine tk 5 ?_;refine tk 6 ?_;refine tk 7 ?_;refine tk 8 ?_;refine tk 9 ?_;refine tk 10 ?_;refine rd1 11 (fun K hK=>?_)
 (go_simp;first|((go_at_call 162;with_reducible refine(CM.out _ (by first|assumption|exact XC.drew (by assumption)|exact XC.drewN (by assumption) _)).mono ?_);rintro e w1 ⟨g,rfl,ho,hg,hm,hc⟩;have hm1:=XC.next (by first|assumption|exact XC.drew (by assumption)) hm hc;have ho1:=hid ho;clear hm hc ho)|((go_at_call 161;refine(CR.out _ _ ho1.out).mono ?_);rintro e w2 ⟨rfl,rfl⟩)|((go_at_call 159;with_reducible refine(CS.out _ (by first|assumption|exact XC.drew (by assumption)|exact XC.drewN (by assumption) _)).mono ?_);rintro e w3 ⟨rfl,hm9⟩))
 refine hK.out _ _ ?_ (fun hHeld=>?_)
 ·(first|exact XC.toS (by assumption)|exact XC.toS (XC.drew (by assumption)))
 clear hK K
 try go_frame
 refine rd1 12 (fun K hK=>?_)
 (go_simp;first|((go_at_call 162;with_reducible refine(CM.out _ (by first|assumption|exact XC.drew (by assumption)|exact XC.drewN (by assumption) _)).mono ?_);rintro e w1 ⟨g,rfl,ho,hg,hm,hc⟩;have hm1:=XC.next (by first|assumption|exact XC.drew (by assumption)) hm hc;have ho1:=hid ho;clear hm hc ho)|((go_at_call 161;refine(CR.out _ _ ho1.out).mono ?_);rintro e w2 ⟨rfl,rfl⟩)|((go_at_call 159;with_reducible refine(CS.out _ (by first|assumption|exact XC.drew (by assumption)|exact XC.drewN (by assumption) _)).mono ?_);rintro e w3 ⟨rfl,hm9⟩))
 refine hK.out _ _ ?_ (fun hHeld=>?_)
 ·(first|exact XC.toS (by assumption)|exact XC.toS (XC.drew (by assumption)))
 clear hK K
 try go_frame
 refine rd1 13 (fun K hK=>?_)
 (go_simp;first|((go_at_call 162;with_reducible refine(CM.out _ (by first|assumption|exact XC.drew (by assumption)|exact XC.drewN (by assumption) _)).mono ?_);rintro e w1 ⟨g,rfl,ho,hg,hm,hc⟩;have hm1:=XC.next (by first|assumption|exact XC.drew (by assumption)) hm hc;have ho1:=hid ho;clear hm hc ho)|((go_at_call 161;refine(CR.out _ _ ho1.out).mono ?_);rintro e w2 ⟨rfl,rfl⟩)|((go_at_call 159;with_reducible refine(CS.out _ (by first|assumption|exact XC.drew (by assumption)|exact XC.drewN (by assumption) _)).mono ?_);rintro e w3 ⟨rfl,hm9⟩))
 exact q6z
 ):p:=h
theorem B4J{p:Prop}(h:p:=by
 refine tk 0 ?_;refine tk 1 ?_;refine tk 2 ?_;refine tk 3 ?_;refine tk 4 ?_;refine tk 5 ?_;refine rd1 6 (fun K hK=>?_)
 (go_simp;first|((go_at_call 162;with_reducible refine(CM.out _ (by first|assumption|exact XC.drew (by assumption)|exact XC.drewN (by assumption) _)).mono ?_);rintro e w1 ⟨g,rfl,ho,hg,hm,hc⟩;have hm1:=XC.next (by first|assumption|exact XC.drew (by assumption)) hm hc;have ho1:=hid ho;clear hm hc ho)|((go_at_call 161;refine(CR.out _ _ ho1.out).mono ?_);rintro e w2 ⟨rfl,rfl⟩)|((go_at_call 159;with_reducible refine(CS.out _ (by first|assumption|exact XC.drew (by assumption)|exact XC.drewN (by assumption) _)).mono ?_);rintro e w3 ⟨rfl,hm9⟩))
 refine hK.out _ _ ?_ (fun hHeld=>?_)
 ·(first|exact XC.toS (by assumption)|exact XC.toS (XC.drew (by assumption)))
 clear hK K
 try go_frame
 refine rd1 7 (fun K hK=>?_)
 (go_simp;first|((go_at_call 162;with_reducible refine(CM.out _ (by first|assumption|exact XC.drew (by assumption)|exact XC.drewN (by assumption) _)).mono ?_);rintro e w1 ⟨g,rfl,ho,hg,hm,hc⟩;have hm1:=XC.next (by first|assumption|exact XC.drew (by assumption)) hm hc;have ho1:=hid ho;clear hm hc ho)|((go_at_call 161;refine(CR.out _ _ ho1.out).mono ?_);rintro e w2 ⟨rfl,rfl⟩)|((go_at_call 159;with_reducible refine(CS.out _ (by first|assumption|exact XC.drew (by assumption)|exact XC.drewN (by assumption) _)).mono ?_);rintro e w3 ⟨rfl,hm9⟩))
 refine hK.out _ _ ?_ (fun hHeld=>?_)
 ·(first|exact XC.toS (by assumption)|exact XC.toS (XC.drew (by assumption)))
 clear hK K
 try go_frame
 refine rd1 8 (fun K hK=>?_)
 (go_simp;first|((go_at_call 162;with_reducible refine(CM.out _ (by first|assumption|exact XC.drew (by assumption)|exact XC.drewN (by assumption) _)).mono ?_);rintro e w1 ⟨g,rfl,ho,hg,hm,hc⟩;have hm1:=XC.next (by first|assumption|exact XC.drew (by assumption)) hm hc;have ho1:=hid ho;clear hm hc ho)|((go_at_call 161;refine(CR.out _ _ ho1.out).mono ?_);rintro e w2 ⟨rfl,rfl⟩)|((go_at_call 159;with_reducible refine(CS.out _ (by first|assumption|exact XC.drew (by assumption)|exact XC.drewN (by assumption) _)).mono ?_);rintro e w3 ⟨rfl,hm9⟩))
 exact q6z
 ):p:=h
theorem B4I{p:Prop}(h:p:=by
 refine tk 0 ?_;refine tk 1 ?_;refine tk 2 ?_;refine tk 3 ?_;refine tk 4 ?_;refine tk 5 ?_;refine tk 6 ?_;refine tk 7 ?_;refine tk 8 ?_;refine tk 9 ?_;refine tk 10 ?_;refine rd1 11 (fun K hK=>?_)
 (go_simp;first|((go_at_call 162;with_reducible refine(CM.out _ (by first|assumption|exact XC.drew (by assumption)|exact XC.drewN (by assumption) _)).mono ?_);rintro e w1 ⟨rfl,hm1⟩)|((go_at_call 161;with_reducible refine(CR.out _ (by first|assumption|exact XC.drew (by assumption)|exact XC.drewN (by assumption) _)).mono ?_);rintro e w2 ⟨rfl,hm2⟩)|((go_at_call 159;with_reducible refine(CS.out _ (by first|assumption|exact XC.drew (by assumption)|exact XC.drewN (by assumption) _)).mono ?_);rintro e w3 ⟨rfl,hm9⟩))
 refine hK.out _ _ ?_ (fun hHeld=>?_)
 ·(first|exact XC.toS (by assumption)|exact XC.toS (XC.drew (by assumption)))
 clear hK K
 try go_frame
 refine rd1 12 (fun K hK=>?_)
 (go_simp;first|((go_at_call 162;with_reducible refine(CM.out _ (by first|assumption|exact XC.drew (by assumption)|exact XC.drewN (by assumption) _)).mono ?_);rintro e w1 ⟨rfl,hm1⟩)|((go_at_call 161;with_reducible refine(CR.out _ (by first|assumption|exact XC.drew (by assumption)|exact XC.drewN (by assumption) _)).mono ?_);rintro e w2 ⟨rfl,hm2⟩)|((go_at_call 159;with_reducible refine(CS.out _ (by first|assumption|exact XC.drew (by assumption)|exact XC.drewN (by assumption) _)).mono ?_);rintro e w3 ⟨rfl,hm9⟩))
 refine hK.out _ _ ?_ (fun hHeld=>?_)
 ·(first|exact XC.toS (by assumption)|exact XC.toS (XC.drew (by assumption)))
 clear hK K
 try go_frame
 refine rd1 13 (fun K hK=>?_)
 (go_simp;first|((go_at_call 162;with_reducible refine(CM.out _ (by first|assumption|exact XC.drew (by assumption)|exact XC.drewN (by assumption) _)).mono ?_);rintro e w1 ⟨rfl,hm1⟩)|((go_at_call 161;with_reducible refine(CR.out _ (by first|assumption|exact XC.drew (by assumption)|exact XC.drewN (by assumption) _)).mono ?_);rintro e w2 ⟨rfl,hm2⟩)|((go_at_call 159;with_reducible refine(CS.out _ (by first|assumption|exact XC.drew (by assumption)|exact XC.drewN (by assumption) _)).mono ?_);rintro e w3 ⟨rfl,hm9⟩))
 exact q6z
 ):p:=h
theorem B4H{p:Prop}(h:p:=by
 refine tk 0 ?_;refine tk 1 ?_;refine tk 2 ?_;refine tk 3 ?_;refine tk 4 ?_;refine tk 5 ?_;refine rd1 6 (fun K hK=>?_)
 (go_simp;first|((go_at_call 162;with_reducible refine(CM.out _ (by first|assumption|exact XC.drew (by assumption)|exact XC.drewN (by assumption) _)).mono ?_);rintro e w1 ⟨rfl,hm1⟩)|((go_at_call 161;with_reducible refine(CR.out _ (by first|assumption|exact XC.drew (by assumption)|exact XC.drewN (by assumption) _)).mono ?_);rintro e w2 ⟨rfl,hm2⟩)|((go_at_call 159;with_reducible refine(CS.out _ (by first|assumption|exact XC.drew (by assumption)|exact XC.drewN (by assumption) _)).mono ?_);rintro e w3 ⟨rfl,hm9⟩))
 refine hK.out _ _ ?_ (fun hHeld=>?_)
 ·(first|exact XC.toS (by assumption)|exact XC.toS (XC.drew (by assumption)))
 clear hK K
 try go_frame
 refine rd1 7 (fun K hK=>?_)
 (go_simp;first|((go_at_call 162;with_reducible refine(CM.out _ (by first|assumption|exact XC.drew (by assumption)|exact XC.drewN (by assumption) _)).mono ?_);rintro e w1 ⟨rfl,hm1⟩)|((go_at_call 161;with_reducible refine(CR.out _ (by first|assumption|exact XC.drew (by assumption)|exact XC.drewN (by assumption) _)).mono ?_);rintro e w2 ⟨rfl,hm2⟩)|((go_at_call 159;with_reducible refine(CS.out _ (by first|assumption|exact XC.drew (by assumption)|exact XC.drewN (by assumption) _)).mono ?_);rintro e w3 ⟨rfl,hm9⟩))
 refine hK.out _ _ ?_ (fun hHeld=>?_)
 ·(first|exact XC.toS (by assumption)|exact XC.toS (XC.drew (by assumption)))
 clear hK K
 try go_frame
 refine rd1 8 (fun K hK=>?_)
 (go_simp;first|((go_at_call 162;with_reducible refine(CM.out _ (by first|assumption|exact XC.drew (by assumption)|exact XC.drewN (by assumption) _)).mono ?_);rintro e w1 ⟨rfl,hm1⟩)|((go_at_call 161;with_reducible refine(CR.out _ (by first|assumption|exact XC.drew (by assumption)|exact XC.drewN (by assumption) _)).mono ?_);rintro e w2 ⟨rfl,hm2⟩)|((go_at_call 159;with_reducible refine(CS.out _ (by first|assumption|exact XC.drew (by assumption)|exact XC.drewN (by assumption) _)).mono ?_);rintro e w3 ⟨rfl,hm9⟩))
 exact q6z
 ):p:=h
theorem Byt.part{m:List Int}(h:Byt m)(q k:Nat):Byt ((m.drop q).take k):=by
 intro i;rw[List.getD_eq_getElem?_getD,List.getElem?_take]
 split
 ·rw[List.getElem?_drop,←List.getD_eq_getElem?_getD];exact h _
 ·exact⟨by decide,by decide⟩
theorem Byt.zeros(k:Nat):Byt (List.replicate k 0):=by
 intro i;rw[List.getD_eq_getElem?_getD,List.getElem?_replicate]
 split<;>exact⟨by decide,by decide⟩
def ldV(m:List Int)(q k:Nat):Int:=rdJ ((m.drop q).take k) k
section
variable {base T M : Nat} {mv : Value} {x : Ins} {z : Int} {fl : Bool} {c : Mac} {w : World}
theorem MSt.slc(h:MSt base T M mv x z fl c w){D cap:Nat}(hmv:mv= .slice (some ⟨D,0,none⟩) c.m.length cap)(hcap:c.m.length≤cap){q k:Nat}(hk0:0<k)(hk:q+k≤c.m.length):Ints .u8 w (.slice (some ⟨D,q,none⟩) k (cap-q)) ((c.m.drop q).take k):=by
 have h1:=h.ints;rw[hmv]at h1;have h2:=Ints.drop h1 (m:=q) (by omega);rw[if_neg (by omega),←List.length_drop (l:=c.m) (i:=q)]at h2;have h3:=Ints.take h2 (m:=k) (by rw[List.length_drop];omega);have he:(⟨D,0,none⟩:Addr).add q=⟨D,q,none⟩:=by by_cases hq:q=0<;>simp[Addr.add,hq]
 simpa[he]using h3
end
section
variable {base T M : Nat} {mv : Value} {x : Ins} {z : Int} {fl : Bool} {c : Mac}
theorem A5E(d s:Nat)(hd:d<32)(hs:s<32)(w:World)(h:MSt base T M mv x z fl c w)(hxo:x.o=4)(hxd:x.d=(d:Int))(hxs:x.s=(s:Int))(D cap:Nat)(hmv:mv= .slice (some ⟨D,0,none⟩) c.m.length cap)(hcap:c.m.length≤cap)(hc2:cap≤9223372036854775807)(q:Nat)(hq:atM c s x.i=(q:Int))(hgood:q+1≤c.m.length):Calls prog 116 #[.pointer (some ⟨T,0,none⟩)] w fun e w'=>e= .returned (.tuple #[])∧MSt base T M mv x z fl {c with r:=c.r.set d (wrR (c.r.getD d 0) (ldV c.m q 1) z)} w'∧Ch T M mv w w':=by
 have x1:=h.xo;have x2:=h.xd;have x3:=h.xs;have x4:=h.xz;have x5:=h.xi;rw[hxo]at x1;rw[hxd]at x2;rw[hxs]at x3;have hT:=h.ltT;have hne:T≠w.heap.size:=by omega
 have hpw:=D8 h.zz;have lb:=R3 (Byt.part h.mb q 1) 1;have hlen:((c.m.drop q).take 1).length=1:=by rw[List.length_take,List.length_drop];omega
 have CM:=hid (fun wk (hk:XC base T M mv x z w.heap.size 4 (d:Int) (s:Int) x.z x.i w fl c wk)=>XC.liftD hk (show Calls _ _ #[_,_,.int .i64 1] wk _ from P5 s 1 hs (by decide) (by decide) wk hk.m D cap hmv hcap hc2 q hq hgood));have CR:=hid (fun wk (hk:XC base T M mv x z w.heap.size 4 (d:Int) (s:Int) x.z x.i w fl c wk)=>XC.liftD (v:=.int .u32 (ldV c.m q 1)) hk ((O5 _ (Byt.part hk.m.mb q 1) (by omega) _ wk (hk.m.slc hmv hcap (by decide) hgood)).mono fun e w' h'=>⟨by rw[h'.1,hlen];rfl,0,h'.2.symm⟩));have CS:=hid (fun wk (hk:XC base T M mv x z w.heap.size 4 (d:Int) (s:Int) x.z x.i w fl c wk)=>XC.lift hk (I2 d hd (ldV c.m q 1) wk hk.m lb.1 (Int.lt_of_lt_of_le lb.2 (by decide))));clear lb hlen hmv hq;generalize ldV c.m q 1=n at*
 generalize x.z=xz at*
 generalize x.i=xi at*
 have hX:=XC.new h 4 (d:Int) (s:Int) xz xi;clear h;go_enter func116,ntmps116;go_upto_region 9 with fail
 generalize(w.alloc (.cells #[.int .i64 4,.int .i64 (d:Int),.int .i64 (s:Int),.int .i64 xz,.int .i64 xi] 89))=wa at*
 generalize w.heap.size=B at*
 have rd:∀wk,XS base T M mv x z B 4 (d:Int) (s:Int) xz xi w wk→wk.cell? ⟨B,1,none⟩=some (.int .i64 (d:Int)):=fun wk h=>h.rd
 have rs:∀wk,XS base T M mv x z B 4 (d:Int) (s:Int) xz xi w wk→wk.cell? ⟨B,2,none⟩=some (.int .i64 (s:Int)):=fun wk h=>h.rs
 have ro:∀wk,XS base T M mv x z B 4 (d:Int) (s:Int) xz xi w wk→wk.cell? ⟨B,0,none⟩=some (.int .i64 4):=fun wk h=>h.ro
 have rl:∀wk,XS base T M mv x z B 4 (d:Int) (s:Int) xz xi w wk→B<wk.heap.size:=fun wk h=>h.rl
 have rz:∀wk,XS base T M mv x z B 4 (d:Int) (s:Int) xz xi w wk→wk.cell? ⟨T,6,none⟩=some (.int .i64 z):=fun wk ⟨_,_,h⟩=>h.m.sz
 refine wp_region_held_drew (S:=(XS base T M mv x z B 4 (d:Int) (s:Int) xz xi w)) (by kernel_rfl) ?_ (fun hHeld=>?_)
 ·(first|exact XC.toS (by assumption)|exact XC.toS (XC.drew (by assumption)))
 exact B4H
theorem A3X(d s:Nat)(hd:d<32)(hs:s<32)(w:World)(h:MSt base T M mv x z fl c w)(hxo:x.o=4)(hxd:x.d=(d:Int))(hxs:x.s=(s:Int))(hi:I64 x.i)(hbad:(c.m.length:Int)<atM c s x.i+1):Calls prog 116 #[.pointer (some ⟨T,0,none⟩)] w fun e w'=>e= .returned (.tuple #[])∧MSt base T M mv x z true {c with r:=c.r.set d (wrR (c.r.getD d 0) 0 z)} w'∧Ch T M mv w w':=by
 have x1:=h.xo;have x2:=h.xd;have x3:=h.xs;have x4:=h.xz;have x5:=h.xi;rw[hxo]at x1;rw[hxd]at x2;rw[hxs]at x3;have hT:=h.ltT;have hne:T≠w.heap.size:=by omega
 have hpw:=D8 h.zz;have CM:=hid (fun wk (hk:XC base T M mv x z w.heap.size 4 (d:Int) (s:Int) x.z x.i w fl c wk)=>show Calls _ _ #[_,_,.int .i64 1] wk _ from N4 s 1 hs (by decide) wk hk.m hi hbad);have CR:=hid (fun wk g (ho:OInts .u8 wk g (List.replicate 1 0))=>show Calls _ _ _ wk (fun e w'=>e= .returned (.int .u32 0)∧wk=w')from(O5 (List.replicate 1 0) (Byt.zeros 1) (by decide) (.slice (some ⟨g,0,none⟩) 1 1) wk (ho.ints (by decide))).mono fun e w' h'=>⟨by rw[h'.1];rfl,h'.2⟩);have CS:=hid (fun wk (hk:XC base T M mv x z w.heap.size 4 (d:Int) (s:Int) x.z x.i w true c wk)=>XC.lift hk (I2 d hd 0 wk hk.m (by decide) (by decide)));clear hi hbad;generalize x.z=xz at*
 generalize x.i=xi at*
 have hX:=XC.new h 4 (d:Int) (s:Int) xz xi;clear h;go_enter func116,ntmps116;go_upto_region 9 with fail
 generalize(w.alloc (.cells #[.int .i64 4,.int .i64 (d:Int),.int .i64 (s:Int),.int .i64 xz,.int .i64 xi] 89))=wa at*
 generalize w.heap.size=B at*
 have rd:∀wk,XS base T M mv x z B 4 (d:Int) (s:Int) xz xi w wk→wk.cell? ⟨B,1,none⟩=some (.int .i64 (d:Int)):=fun wk h=>h.rd
 have rs:∀wk,XS base T M mv x z B 4 (d:Int) (s:Int) xz xi w wk→wk.cell? ⟨B,2,none⟩=some (.int .i64 (s:Int)):=fun wk h=>h.rs
 have ro:∀wk,XS base T M mv x z B 4 (d:Int) (s:Int) xz xi w wk→wk.cell? ⟨B,0,none⟩=some (.int .i64 4):=fun wk h=>h.ro
 have rl:∀wk,XS base T M mv x z B 4 (d:Int) (s:Int) xz xi w wk→B<wk.heap.size:=fun wk h=>h.rl
 have rz:∀wk,XS base T M mv x z B 4 (d:Int) (s:Int) xz xi w wk→wk.cell? ⟨T,6,none⟩=some (.int .i64 z):=fun wk ⟨_,_,h⟩=>h.m.sz
 refine wp_region_held_drew (S:=(XS base T M mv x z B 4 (d:Int) (s:Int) xz xi w)) (by kernel_rfl) ?_ (fun hHeld=>?_)
 ·(first|exact XC.toS (by assumption)|exact XC.toS (XC.drew (by assumption)))
 exact B4J
theorem A5D(d s:Nat)(hd:d<32)(hs:s<32)(w:World)(h:MSt base T M mv x z fl c w)(hxo:x.o=5)(hxd:x.d=(d:Int))(hxs:x.s=(s:Int))(D cap:Nat)(hmv:mv= .slice (some ⟨D,0,none⟩) c.m.length cap)(hcap:c.m.length≤cap)(hc2:cap≤9223372036854775807)(q:Nat)(hq:atM c s x.i=(q:Int))(hgood:q+2≤c.m.length):Calls prog 116 #[.pointer (some ⟨T,0,none⟩)] w fun e w'=>e= .returned (.tuple #[])∧MSt base T M mv x z fl {c with r:=c.r.set d (wrR (c.r.getD d 0) (ldV c.m q 2) z)} w'∧Ch T M mv w w':=by
 have x1:=h.xo;have x2:=h.xd;have x3:=h.xs;have x4:=h.xz;have x5:=h.xi;rw[hxo]at x1;rw[hxd]at x2;rw[hxs]at x3;have hT:=h.ltT;have hne:T≠w.heap.size:=by omega
 have hpw:=D8 h.zz;have lb:=R3 (Byt.part h.mb q 2) 2;have hlen:((c.m.drop q).take 2).length=2:=by rw[List.length_take,List.length_drop];omega
 have CM:=hid (fun wk (hk:XC base T M mv x z w.heap.size 5 (d:Int) (s:Int) x.z x.i w fl c wk)=>XC.liftD hk (show Calls _ _ #[_,_,.int .i64 2] wk _ from P5 s 2 hs (by decide) (by decide) wk hk.m D cap hmv hcap hc2 q hq hgood));have CR:=hid (fun wk (hk:XC base T M mv x z w.heap.size 5 (d:Int) (s:Int) x.z x.i w fl c wk)=>XC.liftD (v:=.int .u32 (ldV c.m q 2)) hk ((O5 _ (Byt.part hk.m.mb q 2) (by omega) _ wk (hk.m.slc hmv hcap (by decide) hgood)).mono fun e w' h'=>⟨by rw[h'.1,hlen];rfl,0,h'.2.symm⟩));have CS:=hid (fun wk (hk:XC base T M mv x z w.heap.size 5 (d:Int) (s:Int) x.z x.i w fl c wk)=>XC.lift hk (I2 d hd (ldV c.m q 2) wk hk.m lb.1 (Int.lt_of_lt_of_le lb.2 (by decide))));clear lb hlen hmv hq;generalize ldV c.m q 2=n at*
 generalize x.z=xz at*
 generalize x.i=xi at*
 have hX:=XC.new h 5 (d:Int) (s:Int) xz xi;clear h;go_enter func116,ntmps116;go_upto_region 11 with fail
 generalize(w.alloc (.cells #[.int .i64 5,.int .i64 (d:Int),.int .i64 (s:Int),.int .i64 xz,.int .i64 xi] 89))=wa at*
 generalize w.heap.size=B at*
 have rd:∀wk,XS base T M mv x z B 5 (d:Int) (s:Int) xz xi w wk→wk.cell? ⟨B,1,none⟩=some (.int .i64 (d:Int)):=fun wk h=>h.rd
 have rs:∀wk,XS base T M mv x z B 5 (d:Int) (s:Int) xz xi w wk→wk.cell? ⟨B,2,none⟩=some (.int .i64 (s:Int)):=fun wk h=>h.rs
 have ro:∀wk,XS base T M mv x z B 5 (d:Int) (s:Int) xz xi w wk→wk.cell? ⟨B,0,none⟩=some (.int .i64 5):=fun wk h=>h.ro
 have rl:∀wk,XS base T M mv x z B 5 (d:Int) (s:Int) xz xi w wk→B<wk.heap.size:=fun wk h=>h.rl
 have rz:∀wk,XS base T M mv x z B 5 (d:Int) (s:Int) xz xi w wk→wk.cell? ⟨T,6,none⟩=some (.int .i64 z):=fun wk ⟨_,_,h⟩=>h.m.sz
 refine wp_region_held_drew (S:=(XS base T M mv x z B 5 (d:Int) (s:Int) xz xi w)) (by kernel_rfl) ?_ (fun hHeld=>?_)
 ·(first|exact XC.toS (by assumption)|exact XC.toS (XC.drew (by assumption)))
 exact B4H
theorem A3W(d s:Nat)(hd:d<32)(hs:s<32)(w:World)(h:MSt base T M mv x z fl c w)(hxo:x.o=5)(hxd:x.d=(d:Int))(hxs:x.s=(s:Int))(hi:I64 x.i)(hbad:(c.m.length:Int)<atM c s x.i+2):Calls prog 116 #[.pointer (some ⟨T,0,none⟩)] w fun e w'=>e= .returned (.tuple #[])∧MSt base T M mv x z true {c with r:=c.r.set d (wrR (c.r.getD d 0) 0 z)} w'∧Ch T M mv w w':=by
 have x1:=h.xo;have x2:=h.xd;have x3:=h.xs;have x4:=h.xz;have x5:=h.xi;rw[hxo]at x1;rw[hxd]at x2;rw[hxs]at x3;have hT:=h.ltT;have hne:T≠w.heap.size:=by omega
 have hpw:=D8 h.zz;have CM:=hid (fun wk (hk:XC base T M mv x z w.heap.size 5 (d:Int) (s:Int) x.z x.i w fl c wk)=>show Calls _ _ #[_,_,.int .i64 2] wk _ from N4 s 2 hs (by decide) wk hk.m hi hbad);have CR:=hid (fun wk g (ho:OInts .u8 wk g (List.replicate 2 0))=>show Calls _ _ _ wk (fun e w'=>e= .returned (.int .u32 0)∧wk=w')from(O5 (List.replicate 2 0) (Byt.zeros 2) (by decide) (.slice (some ⟨g,0,none⟩) 2 2) wk (ho.ints (by decide))).mono fun e w' h'=>⟨by rw[h'.1];rfl,h'.2⟩);have CS:=hid (fun wk (hk:XC base T M mv x z w.heap.size 5 (d:Int) (s:Int) x.z x.i w true c wk)=>XC.lift hk (I2 d hd 0 wk hk.m (by decide) (by decide)));clear hi hbad;generalize x.z=xz at*
 generalize x.i=xi at*
 have hX:=XC.new h 5 (d:Int) (s:Int) xz xi;clear h;go_enter func116,ntmps116;go_upto_region 11 with fail
 generalize(w.alloc (.cells #[.int .i64 5,.int .i64 (d:Int),.int .i64 (s:Int),.int .i64 xz,.int .i64 xi] 89))=wa at*
 generalize w.heap.size=B at*
 have rd:∀wk,XS base T M mv x z B 5 (d:Int) (s:Int) xz xi w wk→wk.cell? ⟨B,1,none⟩=some (.int .i64 (d:Int)):=fun wk h=>h.rd
 have rs:∀wk,XS base T M mv x z B 5 (d:Int) (s:Int) xz xi w wk→wk.cell? ⟨B,2,none⟩=some (.int .i64 (s:Int)):=fun wk h=>h.rs
 have ro:∀wk,XS base T M mv x z B 5 (d:Int) (s:Int) xz xi w wk→wk.cell? ⟨B,0,none⟩=some (.int .i64 5):=fun wk h=>h.ro
 have rl:∀wk,XS base T M mv x z B 5 (d:Int) (s:Int) xz xi w wk→B<wk.heap.size:=fun wk h=>h.rl
 have rz:∀wk,XS base T M mv x z B 5 (d:Int) (s:Int) xz xi w wk→wk.cell? ⟨T,6,none⟩=some (.int .i64 z):=fun wk ⟨_,_,h⟩=>h.m.sz
 refine wp_region_held_drew (S:=(XS base T M mv x z B 5 (d:Int) (s:Int) xz xi w)) (by kernel_rfl) ?_ (fun hHeld=>?_)
 ·(first|exact XC.toS (by assumption)|exact XC.toS (XC.drew (by assumption)))
 exact B4J
theorem A1L(d s:Nat)(hd:d<32)(hs:s<32)(w:World)(h:MSt base T M mv x 16 fl c w)(hxo:x.o=2)(hxd:x.d=(d:Int))(hxs:x.s=(s:Int))(D cap:Nat)(hmv:mv= .slice (some ⟨D,0,none⟩) c.m.length cap)(hcap:c.m.length≤cap)(hc2:cap≤9223372036854775807)(q:Nat)(hq:atM c s x.i=(q:Int))(hgood:q+2≤c.m.length):Calls prog 116 #[.pointer (some ⟨T,0,none⟩)] w fun e w'=>e= .returned (.tuple #[])∧MSt base T M mv x 16 fl {c with r:=c.r.set d (wrR (c.r.getD d 0) (ldV c.m q 2) 16)} w'∧Ch T M mv w w':=by
 have x1:=h.xo;have x2:=h.xd;have x3:=h.xs;have x4:=h.xz;have x5:=h.xi;rw[hxo]at x1;rw[hxd]at x2;rw[hxs]at x3;have hT:=h.ltT;have hne:T≠w.heap.size:=by omega
 have hpw:=D8 h.zz;have lb:=R3 (Byt.part h.mb q 2) 2;have hlen:((c.m.drop q).take 2).length=2:=by rw[List.length_take,List.length_drop];omega
 have CM:=hid (fun wk (hk:XC base T M mv x 16 w.heap.size 2 (d:Int) (s:Int) x.z x.i w fl c wk)=>XC.liftD hk (show Calls _ _ #[_,_,.int .i64 (IntKind.i64.wrap 2)] wk _ from P5 s 2 hs (by decide) (by decide) wk hk.m D cap hmv hcap hc2 q hq hgood));have CR:=hid (fun wk (hk:XC base T M mv x 16 w.heap.size 2 (d:Int) (s:Int) x.z x.i w fl c wk)=>XC.liftD (v:=.int .u32 (ldV c.m q 2)) hk ((O5 _ (Byt.part hk.m.mb q 2) (by omega) _ wk (hk.m.slc hmv hcap (by decide) hgood)).mono fun e w' h'=>⟨by rw[h'.1,hlen];rfl,0,h'.2.symm⟩));have CS:=hid (fun wk (hk:XC base T M mv x 16 w.heap.size 2 (d:Int) (s:Int) x.z x.i w fl c wk)=>XC.lift hk (I2 d hd (ldV c.m q 2) wk hk.m lb.1 (Int.lt_of_lt_of_le lb.2 (by decide))));clear lb hlen hmv hq;generalize ldV c.m q 2=n at*
 generalize x.z=xz at*
 generalize x.i=xi at*
 have hX:=XC.new h 2 (d:Int) (s:Int) xz xi;clear h;go_enter func116,ntmps116;go_upto_region 7 with fail
 generalize(w.alloc (.cells #[.int .i64 2,.int .i64 (d:Int),.int .i64 (s:Int),.int .i64 xz,.int .i64 xi] 89))=wa at*
 generalize w.heap.size=B at*
 have rd:∀wk,XS base T M mv x 16 B 2 (d:Int) (s:Int) xz xi w wk→wk.cell? ⟨B,1,none⟩=some (.int .i64 (d:Int)):=fun wk h=>h.rd
 have rs:∀wk,XS base T M mv x 16 B 2 (d:Int) (s:Int) xz xi w wk→wk.cell? ⟨B,2,none⟩=some (.int .i64 (s:Int)):=fun wk h=>h.rs
 have ro:∀wk,XS base T M mv x 16 B 2 (d:Int) (s:Int) xz xi w wk→wk.cell? ⟨B,0,none⟩=some (.int .i64 2):=fun wk h=>h.ro
 have rl:∀wk,XS base T M mv x 16 B 2 (d:Int) (s:Int) xz xi w wk→B<wk.heap.size:=fun wk h=>h.rl
 have rz:∀wk,XS base T M mv x 16 B 2 (d:Int) (s:Int) xz xi w wk→wk.cell? ⟨T,6,none⟩=some (.int .i64 16):=fun wk ⟨_,_,h⟩=>h.m.sz
 refine wp_region_held_drew (S:=(XS base T M mv x 16 B 2 (d:Int) (s:Int) xz xi w)) (by kernel_rfl) ?_ (fun hHeld=>?_)
 ·(first|exact XC.toS (by assumption)|exact XC.toS (XC.drew (by assumption)))
 exact B4I
theorem A1K(d s:Nat)(hd:d<32)(hs:s<32)(w:World)(h:MSt base T M mv x 32 fl c w)(hxo:x.o=2)(hxd:x.d=(d:Int))(hxs:x.s=(s:Int))(D cap:Nat)(hmv:mv= .slice (some ⟨D,0,none⟩) c.m.length cap)(hcap:c.m.length≤cap)(hc2:cap≤9223372036854775807)(q:Nat)(hq:atM c s x.i=(q:Int))(hgood:q+4≤c.m.length):Calls prog 116 #[.pointer (some ⟨T,0,none⟩)] w fun e w'=>e= .returned (.tuple #[])∧MSt base T M mv x 32 fl {c with r:=c.r.set d (wrR (c.r.getD d 0) (ldV c.m q 4) 32)} w'∧Ch T M mv w w':=by
 have x1:=h.xo;have x2:=h.xd;have x3:=h.xs;have x4:=h.xz;have x5:=h.xi;rw[hxo]at x1;rw[hxd]at x2;rw[hxs]at x3;have hT:=h.ltT;have hne:T≠w.heap.size:=by omega
 have hpw:=D8 h.zz;have lb:=R3 (Byt.part h.mb q 4) 4;have hlen:((c.m.drop q).take 4).length=4:=by rw[List.length_take,List.length_drop];omega
 have CM:=hid (fun wk (hk:XC base T M mv x 32 w.heap.size 2 (d:Int) (s:Int) x.z x.i w fl c wk)=>XC.liftD hk (show Calls _ _ #[_,_,.int .i64 (IntKind.i64.wrap 4)] wk _ from P5 s 4 hs (by decide) (by decide) wk hk.m D cap hmv hcap hc2 q hq hgood));have CR:=hid (fun wk (hk:XC base T M mv x 32 w.heap.size 2 (d:Int) (s:Int) x.z x.i w fl c wk)=>XC.liftD (v:=.int .u32 (ldV c.m q 4)) hk ((O5 _ (Byt.part hk.m.mb q 4) (by omega) _ wk (hk.m.slc hmv hcap (by decide) hgood)).mono fun e w' h'=>⟨by rw[h'.1,hlen];rfl,0,h'.2.symm⟩));have CS:=hid (fun wk (hk:XC base T M mv x 32 w.heap.size 2 (d:Int) (s:Int) x.z x.i w fl c wk)=>XC.lift hk (I2 d hd (ldV c.m q 4) wk hk.m lb.1 (Int.lt_of_lt_of_le lb.2 (by decide))));clear lb hlen hmv hq;generalize ldV c.m q 4=n at*
 generalize x.z=xz at*
 generalize x.i=xi at*
 have hX:=XC.new h 2 (d:Int) (s:Int) xz xi;clear h;go_enter func116,ntmps116;go_upto_region 7 with fail
 generalize(w.alloc (.cells #[.int .i64 2,.int .i64 (d:Int),.int .i64 (s:Int),.int .i64 xz,.int .i64 xi] 89))=wa at*
 generalize w.heap.size=B at*
 have rd:∀wk,XS base T M mv x 32 B 2 (d:Int) (s:Int) xz xi w wk→wk.cell? ⟨B,1,none⟩=some (.int .i64 (d:Int)):=fun wk h=>h.rd
 have rs:∀wk,XS base T M mv x 32 B 2 (d:Int) (s:Int) xz xi w wk→wk.cell? ⟨B,2,none⟩=some (.int .i64 (s:Int)):=fun wk h=>h.rs
 have ro:∀wk,XS base T M mv x 32 B 2 (d:Int) (s:Int) xz xi w wk→wk.cell? ⟨B,0,none⟩=some (.int .i64 2):=fun wk h=>h.ro
 have rl:∀wk,XS base T M mv x 32 B 2 (d:Int) (s:Int) xz xi w wk→B<wk.heap.size:=fun wk h=>h.rl
 have rz:∀wk,XS base T M mv x 32 B 2 (d:Int) (s:Int) xz xi w wk→wk.cell? ⟨T,6,none⟩=some (.int .i64 32):=fun wk ⟨_,_,h⟩=>h.m.sz
 refine wp_region_held_drew (S:=(XS base T M mv x 32 B 2 (d:Int) (s:Int) xz xi w)) (by kernel_rfl) ?_ (fun hHeld=>?_)
 ·(first|exact XC.toS (by assumption)|exact XC.toS (XC.drew (by assumption)))
 exact B4I
theorem A0S(d s:Nat)(hd:d<32)(hs:s<32)(w:World)(h:MSt base T M mv x 16 fl c w)(hxo:x.o=2)(hxd:x.d=(d:Int))(hxs:x.s=(s:Int))(hi:I64 x.i)(hbad:(c.m.length:Int)<atM c s x.i+2):Calls prog 116 #[.pointer (some ⟨T,0,none⟩)] w fun e w'=>e= .returned (.tuple #[])∧MSt base T M mv x 16 true {c with r:=c.r.set d (wrR (c.r.getD d 0) 0 16)} w'∧Ch T M mv w w':=by
 have x1:=h.xo;have x2:=h.xd;have x3:=h.xs;have x4:=h.xz;have x5:=h.xi;rw[hxo]at x1;rw[hxd]at x2;rw[hxs]at x3;have hT:=h.ltT;have hne:T≠w.heap.size:=by omega
 have hpw:=D8 h.zz;have CM:=hid (fun wk (hk:XC base T M mv x 16 w.heap.size 2 (d:Int) (s:Int) x.z x.i w fl c wk)=>show Calls _ _ #[_,_,.int .i64 (IntKind.i64.wrap 2)] wk _ from N4 s 2 hs (by decide) wk hk.m hi hbad);have CR:=hid (fun wk g (ho:OInts .u8 wk g (List.replicate 2 0))=>show Calls _ _ _ wk (fun e w'=>e= .returned (.int .u32 0)∧wk=w')from(O5 (List.replicate 2 0) (Byt.zeros 2) (by decide) (.slice (some ⟨g,0,none⟩) 2 2) wk (ho.ints (by decide))).mono fun e w' h'=>⟨by rw[h'.1];rfl,h'.2⟩);have CS:=hid (fun wk (hk:XC base T M mv x 16 w.heap.size 2 (d:Int) (s:Int) x.z x.i w true c wk)=>XC.lift hk (I2 d hd 0 wk hk.m (by decide) (by decide)));clear hi hbad;generalize x.z=xz at*
 generalize x.i=xi at*
 have hX:=XC.new h 2 (d:Int) (s:Int) xz xi;clear h;go_enter func116,ntmps116;go_upto_region 7 with fail
 generalize(w.alloc (.cells #[.int .i64 2,.int .i64 (d:Int),.int .i64 (s:Int),.int .i64 xz,.int .i64 xi] 89))=wa at*
 generalize w.heap.size=B at*
 have rd:∀wk,XS base T M mv x 16 B 2 (d:Int) (s:Int) xz xi w wk→wk.cell? ⟨B,1,none⟩=some (.int .i64 (d:Int)):=fun wk h=>h.rd
 have rs:∀wk,XS base T M mv x 16 B 2 (d:Int) (s:Int) xz xi w wk→wk.cell? ⟨B,2,none⟩=some (.int .i64 (s:Int)):=fun wk h=>h.rs
 have ro:∀wk,XS base T M mv x 16 B 2 (d:Int) (s:Int) xz xi w wk→wk.cell? ⟨B,0,none⟩=some (.int .i64 2):=fun wk h=>h.ro
 have rl:∀wk,XS base T M mv x 16 B 2 (d:Int) (s:Int) xz xi w wk→B<wk.heap.size:=fun wk h=>h.rl
 have rz:∀wk,XS base T M mv x 16 B 2 (d:Int) (s:Int) xz xi w wk→wk.cell? ⟨T,6,none⟩=some (.int .i64 16):=fun wk ⟨_,_,h⟩=>h.m.sz
 refine wp_region_held_drew (S:=(XS base T M mv x 16 B 2 (d:Int) (s:Int) xz xi w)) (by kernel_rfl) ?_ (fun hHeld=>?_)
 ·(first|exact XC.toS (by assumption)|exact XC.toS (XC.drew (by assumption)))
 exact q9z
theorem A0R(d s:Nat)(hd:d<32)(hs:s<32)(w:World)(h:MSt base T M mv x 32 fl c w)(hxo:x.o=2)(hxd:x.d=(d:Int))(hxs:x.s=(s:Int))(hi:I64 x.i)(hbad:(c.m.length:Int)<atM c s x.i+4):Calls prog 116 #[.pointer (some ⟨T,0,none⟩)] w fun e w'=>e= .returned (.tuple #[])∧MSt base T M mv x 32 true {c with r:=c.r.set d (wrR (c.r.getD d 0) 0 32)} w'∧Ch T M mv w w':=by
 have x1:=h.xo;have x2:=h.xd;have x3:=h.xs;have x4:=h.xz;have x5:=h.xi;rw[hxo]at x1;rw[hxd]at x2;rw[hxs]at x3;have hT:=h.ltT;have hne:T≠w.heap.size:=by omega
 have hpw:=D8 h.zz;have CM:=hid (fun wk (hk:XC base T M mv x 32 w.heap.size 2 (d:Int) (s:Int) x.z x.i w fl c wk)=>show Calls _ _ #[_,_,.int .i64 (IntKind.i64.wrap 4)] wk _ from N4 s 4 hs (by decide) wk hk.m hi hbad);have CR:=hid (fun wk g (ho:OInts .u8 wk g (List.replicate 4 0))=>show Calls _ _ _ wk (fun e w'=>e= .returned (.int .u32 0)∧wk=w')from(O5 (List.replicate 4 0) (Byt.zeros 4) (by decide) (.slice (some ⟨g,0,none⟩) 4 4) wk (ho.ints (by decide))).mono fun e w' h'=>⟨by rw[h'.1];rfl,h'.2⟩);have CS:=hid (fun wk (hk:XC base T M mv x 32 w.heap.size 2 (d:Int) (s:Int) x.z x.i w true c wk)=>XC.lift hk (I2 d hd 0 wk hk.m (by decide) (by decide)));clear hi hbad;generalize x.z=xz at*
 generalize x.i=xi at*
 have hX:=XC.new h 2 (d:Int) (s:Int) xz xi;clear h;go_enter func116,ntmps116;go_upto_region 7 with fail
 generalize(w.alloc (.cells #[.int .i64 2,.int .i64 (d:Int),.int .i64 (s:Int),.int .i64 xz,.int .i64 xi] 89))=wa at*
 generalize w.heap.size=B at*
 have rd:∀wk,XS base T M mv x 32 B 2 (d:Int) (s:Int) xz xi w wk→wk.cell? ⟨B,1,none⟩=some (.int .i64 (d:Int)):=fun wk h=>h.rd
 have rs:∀wk,XS base T M mv x 32 B 2 (d:Int) (s:Int) xz xi w wk→wk.cell? ⟨B,2,none⟩=some (.int .i64 (s:Int)):=fun wk h=>h.rs
 have ro:∀wk,XS base T M mv x 32 B 2 (d:Int) (s:Int) xz xi w wk→wk.cell? ⟨B,0,none⟩=some (.int .i64 2):=fun wk h=>h.ro
 have rl:∀wk,XS base T M mv x 32 B 2 (d:Int) (s:Int) xz xi w wk→B<wk.heap.size:=fun wk h=>h.rl
 have rz:∀wk,XS base T M mv x 32 B 2 (d:Int) (s:Int) xz xi w wk→wk.cell? ⟨T,6,none⟩=some (.int .i64 32):=fun wk ⟨_,_,h⟩=>h.m.sz
 refine wp_region_held_drew (S:=(XS base T M mv x 32 B 2 (d:Int) (s:Int) xz xi w)) (by kernel_rfl) ?_ (fun hHeld=>?_)
 ·(first|exact XC.toS (by assumption)|exact XC.toS (XC.drew (by assumption)))
 exact q9z
theorem A9H(d s:Nat)(hd:d<32)(hs:s<32)(w:World)(h:MSt base T M mv x z fl c w)(hxo:x.o=32)(hxd:x.d=(d:Int))(hxs:x.s=(s:Int)):Calls prog 116 #[.pointer (some ⟨T,0,none⟩)] w fun e w'=>e= .returned (.tuple #[])∧MSt base T M mv x z fl c w'∧Ch T M mv w w':=by
 have x1:=h.xo;have x2:=h.xd;have x3:=h.xs;have x4:=h.xz;have x5:=h.xi;rw[hxo]at x1;rw[hxd]at x2;rw[hxs]at x3;have hT:=h.ltT;have hne:T≠w.heap.size:=by omega
 have hpw:=D8 h.zz;generalize x.z=xz at*
 generalize x.i=xi at*
 have hX:=XC.new h 32 (d:Int) (s:Int) xz xi;clear h;go_enter func116,ntmps116;have hF:=hX;exact A4Y
theorem A9G(d s:Nat)(hd:d<32)(hs:s<32)(w:World)(h:MSt base T M mv x z fl c w)(hxo:x.o=33)(hxd:x.d=(d:Int))(hxs:x.s=(s:Int)):Calls prog 116 #[.pointer (some ⟨T,0,none⟩)] w fun e w'=>e= .returned (.tuple #[])∧MSt base T M mv x z fl c w'∧Ch T M mv w w':=by
 have x1:=h.xo;have x2:=h.xd;have x3:=h.xs;have x4:=h.xz;have x5:=h.xi;rw[hxo]at x1;rw[hxd]at x2;rw[hxs]at x3;have hT:=h.ltT;have hne:T≠w.heap.size:=by omega
 have hpw:=D8 h.zz;generalize x.z=xz at*
 generalize x.i=xi at*
 have hX:=XC.new h 33 (d:Int) (s:Int) xz xi;clear h;go_enter func116,ntmps116;have hF:=hX;exact A4Y
theorem A9D(d s:Nat)(hd:d<32)(hs:s<32)(w:World)(h:MSt base T M mv x z fl c w)(hxo:x.o=36)(hxd:x.d=(d:Int))(hxs:x.s=(s:Int)):Calls prog 116 #[.pointer (some ⟨T,0,none⟩)] w fun e w'=>e= .returned (.tuple #[])∧MSt base T M mv x z fl c w'∧Ch T M mv w w':=by
 have x1:=h.xo;have x2:=h.xd;have x3:=h.xs;have x4:=h.xz;have x5:=h.xi;rw[hxo]at x1;rw[hxd]at x2;rw[hxs]at x3;have hT:=h.ltT;have hne:T≠w.heap.size:=by omega
 have hpw:=D8 h.zz;generalize x.z=xz at*
 generalize x.i=xi at*
 have hX:=XC.new h 36 (d:Int) (s:Int) xz xi;clear h;go_enter func116,ntmps116;have hF:=hX;exact A4Y
end
end Go.Proofs.YtajljbmeaeeknaaGreat
