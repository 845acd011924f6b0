/- -/
import Derived.Laws.Tables
import Derived.Laws.CopyOwn
import Derived.Laws.AppendOwnNone
import Derived.Deep.MidRow
import Derived.Laws.ResultCell
import Derived.Test.YtdojafpjipcbjaaGreatK12
import Derived.Test.YtdojafpjipcbjaaGreatK17
import Derived.Test.YtdojafpjipcbjaaGreatK18
import Derived.Test.YtdojafpjipcbjaaGreatK19
import Derived.Test.YtdojafpjipcbjaaGreatK20
open Go.Proofs.Tryz
open Go.Lib (hid)
namespace Go.Proofs.YtdojafpjipcbjaaGreat
open Go.RowKit Go.Maps
set_option linter.unusedVariables false
set_option linter.unusedSimpArgs false
theorem d9{p:Prop}(h:p:=by
 rw[if_pos c1]at h;simp only[isR,isM,isL,isC,Bool.and_eq_true,decide_eq_true_eq,beq_iff_eq,bne_iff_ne]at h;omega
 ):p:=h
def A7D(d s:Nat)(i z:Int)(c:Mac):Mac:={c with r:=c.r.set d (wrR (c.r.getD d 0) (c.r.getD s 0%pwZ z) z)}
def A7C(d s:Nat)(i z:Int)(c:Mac):Mac:={c with r:=c.r.set d (wrR (c.r.getD d 0) (i%4294967296) z)}
def B2k(d s:Nat)(i z:Int)(c:Mac):Mac:={c with r:=c.r.set d (wrR (c.r.getD d 0) (adN (c.r.getD d 0%pwZ z) (c.r.getD s 0%pwZ z) z) z),f:=rsF (adN (c.r.getD d 0%pwZ z) (c.r.getD s 0%pwZ z) z) z (adO (c.r.getD d 0%pwZ z) (c.r.getD s 0%pwZ z) z)}
def B2j(d s:Nat)(i z:Int)(c:Mac):Mac:={c with r:=c.r.set d (wrR (c.r.getD d 0) (orW (c.r.getD d 0%pwZ z) (c.r.getD s 0%pwZ z)) z),f:=rsF (orW (c.r.getD d 0%pwZ z) (c.r.getD s 0%pwZ z)) z 0}
def B2i(d s:Nat)(i z:Int)(c:Mac):Mac:={c with r:=c.r.set d (wrR (c.r.getD d 0) (anW (c.r.getD d 0%pwZ z) (c.r.getD s 0%pwZ z)) z),f:=rsF (anW (c.r.getD d 0%pwZ z) (c.r.getD s 0%pwZ z)) z 0}
def A7b(d s:Nat)(i z:Int)(c:Mac):Mac:={c with r:=c.r.set d (wrR (c.r.getD d 0) (suN (c.r.getD d 0%pwZ z) (c.r.getD s 0%pwZ z) z) z),f:=rsF (suN (c.r.getD d 0%pwZ z) (c.r.getD s 0%pwZ z) z) z (suO (c.r.getD d 0%pwZ z) (c.r.getD s 0%pwZ z) z)}
def A7a(d s:Nat)(i z:Int)(c:Mac):Mac:={c with r:=c.r.set d (wrR (c.r.getD d 0) (xoW (c.r.getD d 0%pwZ z) (c.r.getD s 0%pwZ z)) z),f:=rsF (xoW (c.r.getD d 0%pwZ z) (c.r.getD s 0%pwZ z)) z 0}
def A7Z(d s:Nat)(i z:Int)(c:Mac):Mac:={c with f:=rsF (suN (c.r.getD d 0%pwZ z) (c.r.getD s 0%pwZ z) z) z (suO (c.r.getD d 0%pwZ z) (c.r.getD s 0%pwZ z) z)}
def A7Y(d s:Nat)(i z:Int)(c:Mac):Mac:={c with f:=rsF (anW (c.r.getD d 0%pwZ z) (c.r.getD s 0%pwZ z)) z 0}
def A2i(d s:Nat)(i z:Int)(c:Mac):Mac:={c with r:=c.r.set d (wrR (c.r.getD d 0) (adN (c.r.getD d 0%pwZ z) (i%4294967296) z) z),f:=rsF (adN (c.r.getD d 0%pwZ z) (i%4294967296) z) z (adO (c.r.getD d 0%pwZ z) (i%4294967296) z)}
def A2h(d s:Nat)(i z:Int)(c:Mac):Mac:={c with r:=c.r.set d (wrR (c.r.getD d 0) (orW (c.r.getD d 0%pwZ z) (i%4294967296)) z),f:=rsF (orW (c.r.getD d 0%pwZ z) (i%4294967296)) z 0}
def A2g(d s:Nat)(i z:Int)(c:Mac):Mac:={c with r:=c.r.set d (wrR (c.r.getD d 0) (anW (c.r.getD d 0%pwZ z) (i%4294967296)) z),f:=rsF (anW (c.r.getD d 0%pwZ z) (i%4294967296)) z 0}
def A2f(d s:Nat)(i z:Int)(c:Mac):Mac:={c with r:=c.r.set d (wrR (c.r.getD d 0) (suN (c.r.getD d 0%pwZ z) (i%4294967296) z) z),f:=rsF (suN (c.r.getD d 0%pwZ z) (i%4294967296) z) z (suO (c.r.getD d 0%pwZ z) (i%4294967296) z)}
def A2e(d s:Nat)(i z:Int)(c:Mac):Mac:={c with r:=c.r.set d (wrR (c.r.getD d 0) (xoW (c.r.getD d 0%pwZ z) (i%4294967296)) z),f:=rsF (xoW (c.r.getD d 0%pwZ z) (i%4294967296)) z 0}
def A2d(d s:Nat)(i z:Int)(c:Mac):Mac:={c with f:=rsF (suN (c.r.getD d 0%pwZ z) (i%4294967296) z) z (suO (c.r.getD d 0%pwZ z) (i%4294967296) z)}
def A4x(d s:Nat)(i z:Int)(c:Mac):Mac:=(A3F d s c)
def A2c(d s:Nat)(i z:Int)(c:Mac):Mac:=(shM 21 z d c)
def A2b(d s:Nat)(i z:Int)(c:Mac):Mac:=(shM 22 z d c)
def A2a(d s:Nat)(i z:Int)(c:Mac):Mac:=(shM 23 z d c)
def U7(d s:Nat)(i z:Int)(c:Mac):Mac:={c with r:=c.r.set d (wrR (c.r.getD d 0) (4294967295-(c.r.getD d 0%pwZ z)) z)}
def A1O(d s:Nat)(i z:Int)(c:Mac):Mac:={c with r:=c.r.set d (wrR (c.r.getD d 0) (suN 0 (c.r.getD d 0%pwZ z) z) z),f:=rsF (suN 0 (c.r.getD d 0%pwZ z) z) z (suO 0 (c.r.getD d 0%pwZ z) z)}
def A1N(d s:Nat)(i z:Int)(c:Mac):Mac:={c with r:=c.r.set 2 (cdV (c.r.getD 0 0))}
def r8(d s:Nat)(i z:Int)(c:Mac):Mac:={c with r:=c.r.set d (c.r.getD d 0 / 256*256+(if hoB s c.f=true then 1 else 0))}
def A1M(d s:Nat)(i z:Int)(c:Mac):Mac:={c with r:=c.r.set d (c.r.getD s 0%256)}
def A1L(d s:Nat)(i z:Int)(c:Mac):Mac:=(if hoB i c.f=true then{c with r:=c.r.set d (c.r.getD s 0)}else c)
def A7X(d s:Nat)(i z:Int)(c:Mac):Mac:={c with e:=1}
def A7W(d s:Nat)(i z:Int)(c:Mac):Mac:={c with e:=2}
def ldM(d s k:Nat)(i z:Int)(c:Mac):Option Mac:=if(atM c s i).toNat+k≤c.m.length then some {c with r:=c.r.set d (wrR (c.r.getD d 0) (ldV c.m (atM c s i).toNat k) z)}else none
def stM(d s k:Nat)(i z:Int)(c:Mac):Option Mac:=if(atM c d i).toNat+k≤c.m.length then some {c with m:=M0 c.m (atM c d i).toNat (leB (c.r.getD s 0) k)}else none
def exO(o:Int)(d s:Nat)(i z:Int)(c:Mac):Option Mac:=
 if o=0 then some (A7D d s i z c)
 else if o=1 then some (A7C d s i z c)
 else if o=2 then ldM d s (if z=16 then 2 else 4) i z c
 else if o=3 then stM d s (if z=16 then 2 else 4) i z c
 else if o=4 then ldM d s 1 i z c
 else if o=5 then ldM d s 2 i z c
 else if o=6 then stM d s 1 i z c
 else if o=7 then some (B2k d s i z c)
 else if o=8 then some (B2j d s i z c)
 else if o=9 then some (B2i d s i z c)
 else if o=10 then some (A7b d s i z c)
 else if o=11 then some (A7a d s i z c)
 else if o=12 then some (A7Z d s i z c)
 else if o=13 then some (A7Y d s i z c)
 else if o=14 then some (A2i d s i z c)
 else if o=15 then some (A2h d s i z c)
 else if o=16 then some (A2g d s i z c)
 else if o=17 then some (A2f d s i z c)
 else if o=18 then some (A2e d s i z c)
 else if o=19 then some (A2d d s i z c)
 else if o=20 then some (A4x d s i z c)
 else if o=21 then some (A2c d s i z c)
 else if o=22 then some (A2b d s i z c)
 else if o=23 then some (A2a d s i z c)
 else if o=24 then some (U7 d s i z c)
 else if o=25 then some (A1O d s i z c)
 else if o=26 then N6 d c
 else if o=27 then R4 d c
 else if o=28 then some (A1N d s i z c)
 else if o=29 then some (r8 d s i z c)
 else if o=30 then some (A1M d s i z c)
 else if o=31 then some (A1L d s i z c)
 else if o=32 then some c
 else if o=33 then some c
 else if o=34 then some (A7X d s i z c)
 else if o=35 then some (A7W d s i z c)
 else if o=36 then some c
 else some c
def exM(x:Ins)(z:Int)(c:Mac):Option Mac:=exO x.o x.d.toNat x.s.toNat x.i z c
def ExP(base T M:Nat)(mv:Value)(x:Ins)(z:Int)(c:Mac)(o:Option Mac)(w w':World):Prop:=
 (match o with|some c'=>MSt base T M mv x z false c' w'|none=>∃c',MSt base T M mv x z true c' w'∧c'.m=c.m)∧Ch T M mv w w'
theorem A2W(n:Int):isC n=true↔0≤n∧n≤15∧n≠10∧n≠11:=by simp[isC]
theorem X9{x:Ins}(h:D2 x=true):(0≤x.o∧x.o≤36)∧(0≤x.d∧x.d<32)∧(0≤x.s∧x.s<32)∧(x.o=29→isC x.s=true)∧(x.o=31→isC x.i=true):=by
 unfold D2 at h;rw[A2W,A2W];by_cases c1:x.o=0∨(7≤x.o∧x.o≤13)∨x.o=20
 ·exact d9
 rw[if_neg c1]at h;clear c1;by_cases c1:x.o=1∨(14≤x.o∧x.o≤19)
 ·exact d9
 rw[if_neg c1]at h;clear c1;by_cases c1:x.o=2∨x.o=4∨x.o=5
 ·exact d9
 rw[if_neg c1]at h;clear c1;by_cases c1:x.o=3
 ·exact d9
 rw[if_neg c1]at h;clear c1;by_cases c1:x.o=6
 ·exact d9
 rw[if_neg c1]at h;clear c1;by_cases c1:21≤x.o∧x.o≤27
 ·exact d9
 rw[if_neg c1]at h;clear c1;by_cases c1:x.o=28∨x.o=34∨x.o=35∨x.o=36
 ·exact d9
 rw[if_neg c1]at h;clear c1;by_cases c1:x.o=29
 ·exact d9
 rw[if_neg c1]at h;clear c1;by_cases c1:x.o=30
 ·exact d9
 rw[if_neg c1]at h;clear c1;by_cases c1:x.o=31
 ·exact d9
 rw[if_neg c1]at h;clear c1;by_cases c1:x.o=32
 ·exact d9
 rw[if_neg c1]at h;clear c1;by_cases c1:x.o=33
 ·exact d9
 rw[if_neg c1]at h;clear c1;cases h
section
variable {base T M : Nat} {mv : Value} {x : Ins} {z : Int} {c c' : Mac} {w w' : World}
theorem ExP.ok(h:MSt base T M mv x z false c' w'∧Ch T M mv w w'):ExP base T M mv x z c (some c') w w':=h
theorem ExP.bad(h:MSt base T M mv x z true c' w'∧Ch T M mv w w')(hm:c'.m=c.m):ExP base T M mv x z c none w w':=⟨⟨c',h.1,hm⟩,h.2⟩
theorem ExP.div{o:Option Mac}(h:MSt base T M mv x z (A2D o false) (o.getD c) w'∧Ch T M mv w w'):ExP base T M mv x z c o w w':=by
 cases o with
 |none=>exact⟨⟨c,h.1,rfl⟩,h.2⟩
 |some c'=>exact h
theorem MSt.where(h:MSt base T M mv x z false c w){q k:Nat}(hk:0<k)(hg:q+k≤c.m.length):∃D cap,mv= .slice (some ⟨D,0,none⟩) c.m.length cap∧c.m.length≤cap∧cap≤9223372036854775807:=by
 rcases h.v with⟨e,_⟩|⟨D,cap,e,h1,h2,_⟩
 ·rw[e]at hg;simp at hg;omega
 ·exact⟨D,cap,e,h1,h2⟩
theorem L8(c:Mac)(s:Nat)(i:Int):atM c s i=((atM c s i).toNat:Int):=by
 have:0≤atM c s i:=Int.emod_nonneg _ (by decide);omega
theorem A4l(d s:Nat)(hd:d<32)(hs:s<32)(w:World)(h:MSt base T M mv x 16 false c w)(hxo:x.o=2)(hxd:x.d=(d:Int))(hxs:x.s=(s:Int))(hi:I64 x.i):Calls prog 44 #[.pointer (some ⟨T,0,none⟩)] w fun e w'=>e= .returned (.tuple #[])∧ExP base T M mv x 16 c (ldM d s 2 x.i 16 c) w w':=by
 unfold ldM
 split
 ·rename_i hg
  obtain⟨D,cap,hmv,h1,h2⟩:=h.where (by decide:0<2) hg
  exact(A0P d s hd hs w h hxo hxd hxs D cap hmv h1 h2 _ (L8 c s x.i) hg).mono fun e w' h'=>⟨h'.1,ExP.ok h'.2⟩
 ·rename_i hg
  have:=L8 c s x.i;exact(m8 d s hd hs w h hxo hxd hxs hi (by omega)).mono fun e w' h'=>⟨h'.1,ExP.bad h'.2 rfl⟩
theorem A4k(d s:Nat)(hd:d<32)(hs:s<32)(w:World)(h:MSt base T M mv x 32 false c w)(hxo:x.o=2)(hxd:x.d=(d:Int))(hxs:x.s=(s:Int))(hi:I64 x.i):Calls prog 44 #[.pointer (some ⟨T,0,none⟩)] w fun e w'=>e= .returned (.tuple #[])∧ExP base T M mv x 32 c (ldM d s 4 x.i 32 c) w w':=by
 unfold ldM
 split
 ·rename_i hg
  obtain⟨D,cap,hmv,h1,h2⟩:=h.where (by decide:0<4) hg
  exact(A0O d s hd hs w h hxo hxd hxs D cap hmv h1 h2 _ (L8 c s x.i) hg).mono fun e w' h'=>⟨h'.1,ExP.ok h'.2⟩
 ·rename_i hg
  have:=L8 c s x.i;exact(m7 d s hd hs w h hxo hxd hxs hi (by omega)).mono fun e w' h'=>⟨h'.1,ExP.bad h'.2 rfl⟩
theorem A4j(d s:Nat)(hd:d<32)(hs:s<32)(w:World)(h:MSt base T M mv x 16 false c w)(hxo:x.o=3)(hxd:x.d=(d:Int))(hxs:x.s=(s:Int))(hi:I64 x.i):Calls prog 44 #[.pointer (some ⟨T,0,none⟩)] w fun e w'=>e= .returned (.tuple #[])∧ExP base T M mv x 16 c (stM d s 2 x.i 16 c) w w':=by
 unfold stM
 split
 ·rename_i hg
  obtain⟨D,cap,hmv,h1,h2⟩:=h.where (by decide:0<2) hg
  exact(A0N d s hd hs w h hxo hxd hxs D cap hmv h1 h2 _ (L8 c d x.i) hg).mono fun e w' h'=>⟨h'.1,ExP.ok h'.2⟩
 ·rename_i hg
  have:=L8 c d x.i;exact(m6 d s hd hs w h hxo hxd hxs hi (by omega)).mono fun e w' h'=>⟨h'.1,ExP.bad h'.2 rfl⟩
theorem A4i(d s:Nat)(hd:d<32)(hs:s<32)(w:World)(h:MSt base T M mv x 32 false c w)(hxo:x.o=3)(hxd:x.d=(d:Int))(hxs:x.s=(s:Int))(hi:I64 x.i):Calls prog 44 #[.pointer (some ⟨T,0,none⟩)] w fun e w'=>e= .returned (.tuple #[])∧ExP base T M mv x 32 c (stM d s 4 x.i 32 c) w w':=by
 unfold stM
 split
 ·rename_i hg
  obtain⟨D,cap,hmv,h1,h2⟩:=h.where (by decide:0<4) hg
  exact(A0M d s hd hs w h hxo hxd hxs D cap hmv h1 h2 _ (L8 c d x.i) hg).mono fun e w' h'=>⟨h'.1,ExP.ok h'.2⟩
 ·rename_i hg
  have:=L8 c d x.i;exact(m5 d s hd hs w h hxo hxd hxs hi (by omega)).mono fun e w' h'=>⟨h'.1,ExP.bad h'.2 rfl⟩
theorem B2A(d s:Nat)(hd:d<32)(hs:s<32)(w:World)(h:MSt base T M mv x z false c w)(hxo:x.o=4)(hxd:x.d=(d:Int))(hxs:x.s=(s:Int))(hi:I64 x.i):Calls prog 44 #[.pointer (some ⟨T,0,none⟩)] w fun e w'=>e= .returned (.tuple #[])∧ExP base T M mv x z c (ldM d s 1 x.i z c) w w':=by
 unfold ldM
 split
 ·rename_i hg
  obtain⟨D,cap,hmv,h1,h2⟩:=h.where (by decide:0<1) hg
  exact(A3U d s hd hs w h hxo hxd hxs D cap hmv h1 h2 _ (L8 c s x.i) hg).mono fun e w' h'=>⟨h'.1,ExP.ok h'.2⟩
 ·rename_i hg
  have:=L8 c s x.i;exact(A1v d s hd hs w h hxo hxd hxs hi (by omega)).mono fun e w' h'=>⟨h'.1,ExP.bad h'.2 rfl⟩
theorem B1z(d s:Nat)(hd:d<32)(hs:s<32)(w:World)(h:MSt base T M mv x z false c w)(hxo:x.o=5)(hxd:x.d=(d:Int))(hxs:x.s=(s:Int))(hi:I64 x.i):Calls prog 44 #[.pointer (some ⟨T,0,none⟩)] w fun e w'=>e= .returned (.tuple #[])∧ExP base T M mv x z c (ldM d s 2 x.i z c) w w':=by
 unfold ldM
 split
 ·rename_i hg
  obtain⟨D,cap,hmv,h1,h2⟩:=h.where (by decide:0<2) hg
  exact(A3T d s hd hs w h hxo hxd hxs D cap hmv h1 h2 _ (L8 c s x.i) hg).mono fun e w' h'=>⟨h'.1,ExP.ok h'.2⟩
 ·rename_i hg
  have:=L8 c s x.i;exact(A1u d s hd hs w h hxo hxd hxs hi (by omega)).mono fun e w' h'=>⟨h'.1,ExP.bad h'.2 rfl⟩
theorem B1y(d s:Nat)(hd:d<32)(hs:s<32)(w:World)(h:MSt base T M mv x z false c w)(hxo:x.o=6)(hxd:x.d=(d:Int))(hxs:x.s=(s:Int))(hi:I64 x.i):Calls prog 44 #[.pointer (some ⟨T,0,none⟩)] w fun e w'=>e= .returned (.tuple #[])∧ExP base T M mv x z c (stM d s 1 x.i z c) w w':=by
 unfold stM
 split
 ·rename_i hg
  obtain⟨D,cap,hmv,h1,h2⟩:=h.where (by decide:0<1) hg
  exact(A3S d s hd hs w h hxo hxd hxs D cap hmv h1 h2 _ (L8 c d x.i) hg).mono fun e w' h'=>⟨h'.1,ExP.ok h'.2⟩
 ·rename_i hg
  have:=L8 c d x.i;exact(A1t d s hd hs w h hxo hxd hxs hi (by omega)).mono fun e w' h'=>⟨h'.1,ExP.bad h'.2 rfl⟩
theorem A1J(d s:Nat)(hd:d<32)(hs:s<32)(w:World)(h:MSt base T M mv x z false c w)(o0:0≤x.o∧x.o≤36)(hxd:x.d=(d:Int))(hxs:x.s=(s:Int))(hi:I64 x.i)(h29:x.o=29→isC (s:Int)=true)(h31:x.o=31→isC x.i=true):Calls prog 44 #[.pointer (some ⟨T,0,none⟩)] w fun e w'=>e= .returned (.tuple #[])∧ExP base T M mv x z c (exO x.o d s x.i z c) w w':=by
 have ho:x.o=0∨x.o=1∨x.o=2∨x.o=3∨x.o=4∨x.o=5∨x.o=6∨x.o=7∨x.o=8∨x.o=9∨x.o=10∨x.o=11∨x.o=12∨x.o=13∨x.o=14∨x.o=15∨x.o=16∨x.o=17∨x.o=18∨x.o=19∨x.o=20∨x.o=21∨x.o=22∨x.o=23∨x.o=24∨x.o=25∨x.o=26∨x.o=27∨x.o=28∨x.o=29∨x.o=30∨x.o=31∨x.o=32∨x.o=33∨x.o=34∨x.o=35∨x.o=36:=by omega
 rcases ho with e|e|e|e|e|e|e|e|e|e|e|e|e|e|e|e|e|e|e|e|e|e|e|e|e|e|e|e|e|e|e|e|e|e|e|e|e
 ·rw[e,show exO 0 d s x.i z c=some (A7D d s x.i z c)from rfl];exact(A9d d s hd hs w h e hxd hxs).mono fun e w' h'=>⟨h'.1,ExP.ok h'.2⟩
 ·rw[e,show exO 1 d s x.i z c=some (A7C d s x.i z c)from rfl];exact(A9c d s hd hs w h e hxd hxs).mono fun e w' h'=>⟨h'.1,ExP.ok h'.2⟩
 ·rw[e,show exO 2 d s x.i z c=ldM d s (if z=16 then 2 else 4) x.i z c from rfl];rcases h.zz with rfl|rfl
  ·exact A4l d s hd hs w h e hxd hxs hi
  ·exact A4k d s hd hs w h e hxd hxs hi
 ·rw[e,show exO 3 d s x.i z c=stM d s (if z=16 then 2 else 4) x.i z c from rfl];rcases h.zz with rfl|rfl
  ·exact A4j d s hd hs w h e hxd hxs hi
  ·exact A4i d s hd hs w h e hxd hxs hi
 ·rw[e,show exO 4 d s x.i z c=ldM d s 1 x.i z c from rfl];exact B2A d s hd hs w h e hxd hxs hi
 ·rw[e,show exO 5 d s x.i z c=ldM d s 2 x.i z c from rfl];exact B1z d s hd hs w h e hxd hxs hi
 ·rw[e,show exO 6 d s x.i z c=stM d s 1 x.i z c from rfl];exact B1y d s hd hs w h e hxd hxs hi
 ·rw[e,show exO 7 d s x.i z c=some (B2k d s x.i z c)from rfl];exact(A9b d s hd hs w h e hxd hxs).mono fun e w' h'=>⟨h'.1,ExP.ok h'.2⟩
 ·rw[e,show exO 8 d s x.i z c=some (B2j d s x.i z c)from rfl];exact(A9a d s hd hs w h e hxd hxs).mono fun e w' h'=>⟨h'.1,ExP.ok h'.2⟩
 ·rw[e,show exO 9 d s x.i z c=some (B2i d s x.i z c)from rfl];exact(A9Z d s hd hs w h e hxd hxs).mono fun e w' h'=>⟨h'.1,ExP.ok h'.2⟩
 ·rw[e,show exO 10 d s x.i z c=some (A7b d s x.i z c)from rfl];exact(A7B d s hd hs w h e hxd hxs).mono fun e w' h'=>⟨h'.1,ExP.ok h'.2⟩
 ·rw[e,show exO 11 d s x.i z c=some (A7a d s x.i z c)from rfl];exact(A7A d s hd hs w h e hxd hxs).mono fun e w' h'=>⟨h'.1,ExP.ok h'.2⟩
 ·rw[e,show exO 12 d s x.i z c=some (A7Z d s x.i z c)from rfl];exact(A6z d s hd hs w h e hxd hxs).mono fun e w' h'=>⟨h'.1,ExP.ok h'.2⟩
 ·rw[e,show exO 13 d s x.i z c=some (A7Y d s x.i z c)from rfl];exact(A6y d s hd hs w h e hxd hxs).mono fun e w' h'=>⟨h'.1,ExP.ok h'.2⟩
 ·rw[e,show exO 14 d s x.i z c=some (A2i d s x.i z c)from rfl];exact(A6x d s hd hs w h e hxd hxs).mono fun e w' h'=>⟨h'.1,ExP.ok h'.2⟩
 ·rw[e,show exO 15 d s x.i z c=some (A2h d s x.i z c)from rfl];exact(A6w d s hd hs w h e hxd hxs).mono fun e w' h'=>⟨h'.1,ExP.ok h'.2⟩
 ·rw[e,show exO 16 d s x.i z c=some (A2g d s x.i z c)from rfl];exact(A6v d s hd hs w h e hxd hxs).mono fun e w' h'=>⟨h'.1,ExP.ok h'.2⟩
 ·rw[e,show exO 17 d s x.i z c=some (A2f d s x.i z c)from rfl];exact(A6u d s hd hs w h e hxd hxs).mono fun e w' h'=>⟨h'.1,ExP.ok h'.2⟩
 ·rw[e,show exO 18 d s x.i z c=some (A2e d s x.i z c)from rfl];exact(A6t d s hd hs w h e hxd hxs).mono fun e w' h'=>⟨h'.1,ExP.ok h'.2⟩
 ·rw[e,show exO 19 d s x.i z c=some (A2d d s x.i z c)from rfl];exact(A6s d s hd hs w h e hxd hxs).mono fun e w' h'=>⟨h'.1,ExP.ok h'.2⟩
 ·rw[e,show exO 20 d s x.i z c=some (A4x d s x.i z c)from rfl];exact(A6r d s hd hs w h e hxd hxs).mono fun e w' h'=>⟨h'.1,ExP.ok h'.2⟩
 ·rw[e,show exO 21 d s x.i z c=some (A2c d s x.i z c)from rfl];exact(A6q d s hd hs w h e hxd hxs).mono fun e w' h'=>⟨h'.1,ExP.ok h'.2⟩
 ·rw[e,show exO 22 d s x.i z c=some (A2b d s x.i z c)from rfl];exact(A6p d s hd hs w h e hxd hxs).mono fun e w' h'=>⟨h'.1,ExP.ok h'.2⟩
 ·rw[e,show exO 23 d s x.i z c=some (A2a d s x.i z c)from rfl];exact(A6o d s hd hs w h e hxd hxs).mono fun e w' h'=>⟨h'.1,ExP.ok h'.2⟩
 ·rw[e,show exO 24 d s x.i z c=some (U7 d s x.i z c)from rfl];exact(A6n d s hd hs w h e hxd hxs).mono fun e w' h'=>⟨h'.1,ExP.ok h'.2⟩
 ·rw[e,show exO 25 d s x.i z c=some (A1O d s x.i z c)from rfl];exact(A6m d s hd hs w h e hxd hxs).mono fun e w' h'=>⟨h'.1,ExP.ok h'.2⟩
 ·rw[e,show exO 26 d s x.i z c=N6 d c from rfl];exact(A6l d s hd hs w h e hxd hxs).mono fun e w' h'=>⟨h'.1,ExP.div h'.2⟩
 ·rw[e,show exO 27 d s x.i z c=R4 d c from rfl];exact(A6k d s hd hs w h e hxd hxs).mono fun e w' h'=>⟨h'.1,ExP.div h'.2⟩
 ·rw[e,show exO 28 d s x.i z c=some (A1N d s x.i z c)from rfl];exact(A6j d s hd hs w h e hxd hxs).mono fun e w' h'=>⟨h'.1,ExP.ok h'.2⟩
 ·rw[e,show exO 29 d s x.i z c=some (r8 d s x.i z c)from rfl];exact(A6i d s hd hs w h e hxd hxs (h29 e)).mono fun e w' h'=>⟨h'.1,ExP.ok h'.2⟩
 ·rw[e,show exO 30 d s x.i z c=some (A1M d s x.i z c)from rfl];exact(A6h d s hd hs w h e hxd hxs).mono fun e w' h'=>⟨h'.1,ExP.ok h'.2⟩
 ·rw[e,show exO 31 d s x.i z c=some (A1L d s x.i z c)from rfl];exact(A6g d s hd hs w h e hxd hxs (h31 e)).mono fun e w' h'=>⟨h'.1,ExP.ok h'.2⟩
 ·rw[e,show exO 32 d s x.i z c=some c from rfl];exact(A6f d s hd hs w h e hxd hxs).mono fun e w' h'=>⟨h'.1,ExP.ok h'.2⟩
 ·rw[e,show exO 33 d s x.i z c=some c from rfl];exact(A6e d s hd hs w h e hxd hxs).mono fun e w' h'=>⟨h'.1,ExP.ok h'.2⟩
 ·rw[e,show exO 34 d s x.i z c=some (A7X d s x.i z c)from rfl];exact(A6d d s hd hs w h e hxd hxs).mono fun e w' h'=>⟨h'.1,ExP.ok h'.2⟩
 ·rw[e,show exO 35 d s x.i z c=some (A7W d s x.i z c)from rfl];exact(A6c d s hd hs w h e hxd hxs).mono fun e w' h'=>⟨h'.1,ExP.ok h'.2⟩
 ·rw[e,show exO 36 d s x.i z c=some c from rfl];exact(A6b d s hd hs w h e hxd hxs).mono fun e w' h'=>⟨h'.1,ExP.ok h'.2⟩
theorem A1K(w:World)(h:MSt base T M mv x z false c w)(hx:D2 x=true)(hi:I64 x.i):Calls prog 44 #[.pointer (some ⟨T,0,none⟩)] w fun e w'=>e= .returned (.tuple #[])∧ExP base T M mv x z c (exM x z c) w w':=by
 obtain⟨h1,h2,h3,h4,h5⟩:=X9 hx;have e1:x.d=(x.d.toNat:Int):=by omega
 have e2:x.s=(x.s.toNat:Int):=by omega
 exact A1J x.d.toNat x.s.toNat (by omega) (by omega) w h h1 e1 e2 hi (fun e=>by rw[←e2];exact h4 e) h5
end
end Go.Proofs.YtdojafpjipcbjaaGreat
namespace Go.Proofs.YtdojafpjipcbjaaGreat
open Go.RowKit
set_option linter.unusedVariables false
set_option linter.unusedSimpArgs false
def a9(x:Ins)(f:Int):Bool:=if x.o=33 then true else if x.o=32 then hoB x.s f else false
set_option maxRecDepth 100000 in
set_option maxHeartbeats 1000000 in
theorem A1j(x:Ins)(f:Int)(w:World)(hc:x.o=32→isC x.s=true)(h0:0≤f)(h1:f≤15):Calls prog 45 #[D5 x,.int .i64 f] w fun e w'=>e= .returned (.bool (a9 x f))∧Below w.heap.size w w':=by
 have b0:=hid ((Below.refl w.heap.size w).alloc (Nat.le_refl _) (.cells #[.int .i64 x.o,.int .i64 x.d,.int .i64 x.s,.int .i64 x.z,.int .i64 x.i] 61));unfold a9 D5;by_cases e3:x.o=33
 ·rw[if_pos e3];rw[e3]at b0⊢;go_enter func45,ntmps45;go_wp2_with fail
  go_ret;exact⟨rfl,b0.out⟩
 ·rw[if_neg e3];have d3:(x.o==33)=false:=by simpa using e3
  by_cases e2:x.o=32
  ·rw[if_pos e2];have CH:=hid (fun wk=>b6 x.s f wk (hc e2) h0 h1);rw[e2]at b0 d3⊢;generalize hoB x.s f=hb at*
   clear hc e3 e2;go_enter func45,ntmps45;go_wp2_with((with_reducible refine(CH.out _).mono ?_);rintro e w1 ⟨rfl,hb1⟩)
   go_ret;exact⟨rfl,b0.out.trans (hb1.mono (by simp))⟩
  ·rw[if_neg e2];have d2:(x.o==32)=false:=by simpa using e2
   clear hc e3 e2;generalize x.o=o at*
   go_enter func45,ntmps45;go_wp2_with fail
   go_ret;exact⟨rfl,b0.out⟩
structure MM(base M:Nat)(mv:Value)(c:Mac)(w:World):Prop where
 m:CellsAt w M (A4 c mv)
 v:(c.m=[]∧mv= .slice none 0 0)∨∃D cap,mv= .slice (some ⟨D,0,none⟩) c.m.length cap∧c.m.length≤cap∧cap≤9223372036854775807∧D≠M∧base≤D∧OInts .u8 w D c.m
 bm:base≤M
 rl:c.r.length=32
 rb:∀k,0≤c.r.getD k 0∧c.r.getD k 0<4294967296
 ml:c.m.length≤32768
 mb:Byt c.m
 fb:0≤c.f∧c.f≤15
 ab:0≤c.a∧c.a<4294967296
section
variable {base T M : Nat} {mv : Value} {x : Ins} {z : Int} {fl : Bool} {c : Mac} {w w' : World}
theorem MM.own(h:MM base M mv c w)(k:Nat)(hk:mv.ownBlock=some k):base≤k∧k<w.heap.size:=by
 rcases h.v with⟨_,e⟩|⟨D,cap,e,_,_,_,h5,h6⟩
 ·rw[e]at hk;cases hk
 ·rw[e]at hk;have:D=k:=by injection hk
  subst this;exact⟨h5,h6.1⟩
theorem MM.ltM(h:MM base M mv c w):M<w.heap.size:=h.m.lt (by simp[A4,h.rl])
theorem MM.same(h:MM base M mv c w)(hb:Below w.heap.size w w'):MM base M mv c w':=
 ⟨h.m.block (hb.block M h.ltM),h.v.imp id (fun⟨D,cap,e,h1,h2,h3,h5,h6⟩=>⟨D,cap,e,h1,h2,h3,h5,h6.below hb⟩),h.bm,h.rl,h.rb,h.ml,h.mb,h.fb,h.ab⟩
theorem MM.toMSt(h:MM base M mv c w)(ht:CellsAt w T [.pointer (some ⟨M,0,none⟩),.int .i64 x.o,.int .i64 x.d,.int .i64 x.s,.int .i64 x.z,.int .i64 x.i,.int .i64 z,.bool fl])(h1:T≠M)(h2:mv.ownBlock≠some T)(h3:base≤T)(hz:z=16∨z=32):MSt base T M mv x z fl c w:=
 {t:=ht,m:=h.m,tm:=h1,bt:=h3,bm:=h.bm,rl:=h.rl,rb:=h.rb,ml:=h.ml,mb:=h.mb,fb:=h.fb,ab:=h.ab,zz:=hz,v:=by
   rcases h.v with he|⟨D,cap,e,a1,a2,a3,a5,a6⟩
   ·exact Or.inl he
   ·exact Or.inr ⟨D,cap,e,a1,a2,(fun hh=>h2 (by rw[e,←hh];rfl)),a3,a5,a6⟩}
theorem MSt.toMM(h:MSt base T M mv x z fl c w):MM base M mv c w:=
 {m:=h.m,bm:=h.bm,rl:=h.rl,rb:=h.rb,ml:=h.ml,mb:=h.mb,fb:=h.fb,ab:=h.ab,v:=by
   rcases h.v with he|⟨D,cap,e,a1,a2,a3,a4,a5,a6⟩
   ·exact Or.inl he
   ·exact Or.inr ⟨D,cap,e,a1,a2,a4,a5,a6⟩}
theorem MM.drewN(h:MM base M mv c w)(n:Nat):MM base M mv c (w.drewN n):=⟨h.m,h.v,h.bm,h.rl,h.rb,h.ml,h.mb,h.fb,h.ab⟩
theorem MM.ints(h:MM base M mv c w):Ints .u8 w mv c.m:=by
 rcases h.v with⟨e,e2⟩|⟨D,cap,e,h1,h2,h3,h5,h6⟩
 ·rw[e,e2];exact⟨none,0,by simp,by simp,by decide,fun _=>rfl,fun i hi=>absurd hi (by simp)⟩
 ·rw[e];have:=h.ml;exact⟨some ⟨D,0,none⟩,cap,rfl,h1,⟨by omega,by omega⟩,(fun hh=>by cases hh),fun i hi=>⟨D,0,rfl,h6.1,by simpa using h6.cell hi⟩⟩
end
theorem MM.reg0{base M:Nat}{mv:Value}{c:Mac}{w:World}(h:MM base M mv c w):w.cell? ⟨M,0,none⟩=some (.int .u32 (c.r.getD 0 0))∧w.frozen? ⟨M,0,none⟩=false:=by
 refine h.m 0 _ ?_;have h0:0<c.r.length:=by rw[h.rl];decide
 unfold A4;rw[List.getElem?_append_left (by simpa using h0),List.getElem?_map,List.getElem?_eq_getElem h0,List.getD_eq_getElem?_getD,List.getElem?_eq_getElem h0];rfl
theorem N5(w:World)(cells:Array Value)(t:TypeId):(w.alloc (.cells cells t)).heap[w.heap.size]? =some (.cells cells t (0,0)):=by
 show(w.heap.push _)[w.heap.size]? =_
 exact Array.getElem?_push_size
theorem A0t{base M:Nat}{mv:Value}{c:Mac}{w:World}(h:MM base M mv c w):∀v∈A4 c mv,v.oneCell'=true:=by
 obtain⟨va,vc,hmv,_,_⟩:=h.ints.shape;intro v hv;unfold A4 at hv;rcases List.mem_append.1 hv with hv|hv
 ·obtain⟨y,_,rfl⟩:=List.mem_map.1 hv;rfl
 ·simp only[List.mem_cons,List.not_mem_nil,or_false]at hv;rcases hv with rfl|rfl|rfl|rfl
  ·rfl
  ·rfl
  ·rw[hmv];rfl
  ·rfl
theorem R6{w:World}{b:Nat}{cs:List Value}{t:TypeId}(h:w.heap[b]? =some (.cells cs.toArray t (0,0))):CellsAt w b cs:=by
 intro k v hk;refine⟨?_,?_⟩
 ·simp[World.cell?,h,hk]
 ·simp[World.frozen?,h]
theorem b9(w:World)(old:Array Value)(cs:List Value)(tM:TypeId):
  let W:=((w.alloc (.cells old tM)).setRow w.heap.size cs.toArray).alloc (.cells #[.int .i64 0,.int .i64 0,.int .i64 0,.int .i64 0,.int .i64 0] 61)
  Below w.heap.size w W∧CellsAt W w.heap.size cs∧Box5 W (w.heap.size+1) 0 0 0 0 0∧W.heap.size=w.heap.size+2:=by
 intro W;have h1:=setRow_heap (w.alloc (.cells old tM)) w.heap.size old cs.toArray tM (0,0) (N5 w old tM);have hs:((w.alloc (.cells old tM)).setRow w.heap.size cs.toArray).heap.size=w.heap.size+1:=by simp
 refine⟨((below_setRow ((Below.refl w.heap.size w).alloc (Nat.le_refl _) _) (Nat.le_refl _) _).alloc (by omega) _),R6 (t:=tM) ?_,?_,?_⟩
 ·rw[←h1];exact Below.heap_alloc _ _ _ (by omega)
 ·have:=Box5.new ((w.alloc (.cells old tM)).setRow w.heap.size cs.toArray) 0 0 0 0 0;rw[hs]at this;exact this
 ·show(World.alloc _ _).heap.size=_
  simp
section
variable {base M : Nat} {mv : Value} {c : Mac} {w : World}
theorem MM.tailAt(h:MM base M mv c w)(k:Nat)(v:Value)(hv:([.int .i64 c.f,.int .u32 c.a,mv,.int .i64 c.e]:List Value)[k]? =some v):w.cell? ⟨M,32+k,none⟩=some v∧w.frozen? ⟨M,32+k,none⟩=false:=by
 refine h.m (32+k) v ?_;unfold A4;rw[List.getElem?_append_right (by simp[h.rl])];simp only[List.length_map,h.rl,Nat.add_sub_cancel_left];exact hv
theorem MM.setTail(h:MM base M mv c w)(k:Nat)(u:Value)(c':Mac)(hk:k<4)(e:([.int .i64 c.f,.int .u32 c.a,mv,.int .i64 c.e]:List Value).set k u=[.int .i64 c'.f,.int .u32 c'.a,mv,.int .i64 c'.e])(hr:c'.r=c.r)(hm:c'.m=c.m)(hf:0≤c'.f∧c'.f≤15)(ha:0≤c'.a∧c'.a<4294967296):MM base M mv c' (w.setCell ⟨M,32+k,none⟩ u):=by
 have:=h.m.set (k:=32+k) (by simp[A4,h.rl];omega) u;have e2:(A4 c mv).set (32+k) u=A4 c' mv:=by
  unfold A4;rw[List.set_append_right _ _ (by simp[h.rl]),hr];simp only[List.length_map,h.rl,Nat.add_sub_cancel_left];rw[e]
 rw[e2]at this;refine⟨this,?_,h.bm,by rw[hr];exact h.rl,by rw[hr];exact h.rb,by rw[hm];exact h.ml,by rw[hm];exact h.mb,hf,ha⟩;rw[hm];refine h.v.imp id (fun⟨D,cap,e,h1,h2,h3,h5,h6⟩=>⟨D,cap,e,h1,h2,h3,h5,by simpa[World.setCell]using h6.1,fun i hi=>⟨?_,by rw[World.frozen?_setCell];exact h6.free hi⟩⟩);rw[World.cell?_setCell_other _ _ _ _ (by intro hh;cases hh;exact h3 rfl)];exact h6.cell hi
theorem MM.setE(h:MM base M mv c w)(n:Int):MM base M mv {c with e:=n} (w.setCell ⟨M,35,none⟩ (.int .i64 n)):=h.setTail 3 _ {c with e:=n} (by decide) rfl rfl rfl h.fb h.ab
theorem MM.setA(h:MM base M mv c w){n:Int}(h0:0≤n)(h1:n<4294967296):MM base M mv {c with a:=n} (w.setCell ⟨M,33,none⟩ (.int .u32 n)):=h.setTail 1 _ {c with a:=n} (by decide) rfl rfl rfl h.fb ⟨h0,h1⟩
end
end Go.Proofs.YtdojafpjipcbjaaGreat
namespace Go.Proofs.YtdojafpjipcbjaaGreat
open Go.RowKit
set_option linter.unusedVariables false
set_option linter.unusedSimpArgs false
def u5(x:Ins)(n:Nat)(c:Mac):Mac:=
 match exM x (max x.z 16) c with
 |none=>{c with e:=3}
 |some c'=>if c'.e=0 then{c' with a:=(c'.a+n+(if a9 x c.f=true then x.i else 0))%4294967296}else c'
def F3(c:Mac):Mac:=
 if c.a.toNat<c.m.length∧Q3 (c.m.drop c.a.toNat)=true then u5 (N2 (c.m.drop c.a.toNat)) (R9 (c.m.drop c.a.toNat)) c else{c with e:=3}
def K3:Nat→Mac→Mac×Nat
 |0,c=>(c,0)
 |k+1,c=>if c.e=0 then(if(F3 c).e=3 then(F3 c,0)else((K3 k (F3 c)).1,(K3 k (F3 c)).2+1))else(c,0)
def N8(c:Mac):Int:=if 32768<c.m.length∨c.f<0∨15<c.f then 1 else 0
structure Fq(p q:Mac):Prop where
 r:p.r=q.r
 a:p.a=q.a
 m:p.m=q.m
 e:p.e=q.e
theorem A0R{w:World}{ops:Array Oper}{rest:List Oper}{o:Oper}{a:Act}{Q:Exit→Act→World→Prop}(hgd:o.guard=none)(s x:Operand)
  (ho:o.op= .call {callee:=.builtin .append,args:=#[s,x],argTypes:=#[24,24]}) (base:Nat) (v:Value) (xs:List Int) (hs:a.eval s=v) (hown:RowI w base 5 .u8 v xs)
  (u:Value) (ys:List Int) (hx:a.eval x=u) (hu:Ints .u8 w u ys) (hl:xs.length+ys.length≤100000) (hbase:base≤w.heap.size)
  (h:∀v' w',RowI w' base 5 .u8 v' (xs++ys)→Below base w w'→wpList prog ops Q rest (a.put o.dst v') w'):wpList prog ops Q (o::rest) a w:=by
 rcases Nat.eq_zero_or_pos ys.length with h0|h0
 ·obtain⟨i0,hi0,hz0,hz1,hz2⟩:=info_parts G4;obtain rfl:ys=[]:=List.length_eq_zero_iff.1 h0;obtain⟨ad,c,e,h1,h2,h3,_⟩:=hu;rcases ad with _|ad
  ·have hc:c=0:=h3 rfl;refine wpList_append_own_none hgd s x _ ho base 5 i0 1 underlying24 hi0 v xs.length _ hs hown (hx.trans (by rw[e,hc];rfl)) ?_;exact h v w (by rw[List.append_nil];exact hown) (Below.refl _ _)
  ·refine wpList_append_own (P:=prog) w hgd s x _ ho base 5 i0 (.int .u8 0) 1 1 underlying24 hi0 hz0 hz1 hz2 rfl (by decide) v xs.length _ hs hown ad 0 c [] (hx.trans e) rfl (fun j u hj=>by simp at hj) (fun u hu=>by cases hu) ?_ ?_ hbase ?_
   ·unfold maxLen;simp at hl;omega
   ·simp at hl;omega
   ·intro v' w' hown' hg _;rw[List.append_nil,Nat.add_zero]at hown';exact h v' w' (by rw[List.append_nil];exact hown') ((Below.refl _ _).grown hg hbase (j8 hown))
 ·exact E5 hgd s x ho base v xs hs hown u ys hx hu h0 hl hbase h
theorem e8{p:Prop}(h:p:=by
 rw[if_pos c1]at h;simp only[isR,isM,isL,isC,isB,C9,inZ,Bool.and_eq_true,Bool.or_eq_true,decide_eq_true_eq,beq_iff_eq,bne_iff_ne]at h;omega
 ):p:=h
theorem CellsAt.setCells{w:World}{b:Nat}{cs ds:List Value}(h:CellsAt w b cs)(hl:ds.length=cs.length):CellsAt (w.setCells b 0 ds) b ds:=by
 intro k v hk;have hkl:k<ds.length:=(List.getElem?_eq_some_iff.1 hk).1;have hs:∀j,j<ds.length→(w.cell? ⟨b,0+j,none⟩).isSome=true:=fun j hj=>by
  rw[Nat.zero_add,(h j _ (List.getElem?_eq_getElem (by omega))).1];rfl
 have h1:=World.cell?_setCells_in b ds 0 w hs k hkl;rw[Nat.zero_add]at h1;refine⟨by rw[h1,←hk,List.getElem?_eq_getElem hkl],?_⟩;rw[World.frozen?_setCells];exact(h k _ (List.getElem?_eq_getElem (by omega))).2
theorem J5(b:Nat):∀(vs:List Value) (o:Nat) (w:World),(w.setCells b o vs).heap.size=w.heap.size
 |[],_,_=>rfl
 |v::r,o,w=>by rw[World.setCells,J5 b r];simp[World.setCell]
theorem Ch.setCells{T M:Nat}{mv:Value}{w:World}:∀(vs:List Value) (o:Nat) (W:World),Ch T M mv w W→Ch T M mv w (W.setCells M o vs)
 |[],_,_,h=>h
 |v::r,o,W,h=>Ch.setCells r (o+1) _ (h.setM o v)
theorem OInts.setCells{k:IntKind}{w:World}{D b:Nat}{xs:List Int}(h:OInts k w D xs)(hD:D≠b)(vs:List Value):OInts k (w.setCells b 0 vs) D xs:=
 ⟨by rw[J5];exact h.1,fun i hi=>⟨by rw[World.cell?_setCells_out b vs 0 w _ (fun e _=>absurd e hD)];exact h.cell hi,by rw[World.frozen?_setCells];exact h.free hi⟩⟩
theorem MM.restore{base M:Nat}{mv:Value}{c c':Mac}{W:World}(h:MM base M mv c' W)(hm:c'.m=c.m)(hr:c.r.length=32)(hb:∀k,0≤c.r.getD k 0∧c.r.getD k 0<4294967296)(hf:0≤c.f∧c.f≤15)(ha:0≤c.a∧c.a<4294967296):MM base M mv c (W.setCells M 0 (A4 c mv)):=by
 refine⟨h.m.setCells (by simp[A4,hr,h.rl]),?_,h.bm,hr,hb,by rw[←hm];exact h.ml,by rw[←hm];exact h.mb,hf,ha⟩;rw[←hm];refine h.v.imp id (fun⟨D,cap,e,h1,h2,h3,h5,h6⟩=>⟨D,cap,e,h1,h2,h3,h5,h6.setCells h3 _⟩)
theorem A2R{x:Ins}(h:okI x=true):x.z=8∨x.z=16∨x.z=32:=by
 have h2:(szI x.o).contains x.z=true:=by unfold okI at h;simp only[Bool.and_eq_true]at h;exact h.1
 unfold szI at h2
 repeat' split at h2
 all_goals(simp at h2;try omega)
theorem A6a{x:Ins}(hk:okI x=true):I64 x.i:=by
 have h:=B2 hk;have hp:pwZ x.z≤4294967296:=by rcases A2R hk with e|e|e<;>rw[e]<;>decide
 unfold D2 D9 at h;unfold I64;by_cases c1:x.o=0∨(7≤x.o∧x.o≤13)∨x.o=20
 ·exact e8
 rw[if_neg c1]at h;clear c1;by_cases c1:x.o=1∨(14≤x.o∧x.o≤19)
 ·exact e8
 rw[if_neg c1]at h;clear c1;by_cases c1:x.o=2∨x.o=4∨x.o=5
 ·exact e8
 rw[if_neg c1]at h;clear c1;by_cases c1:x.o=3
 ·exact e8
 rw[if_neg c1]at h;clear c1;by_cases c1:x.o=6
 ·exact e8
 rw[if_neg c1]at h;clear c1;by_cases c1:21≤x.o∧x.o≤27
 ·exact e8
 rw[if_neg c1]at h;clear c1;by_cases c1:x.o=28∨x.o=34∨x.o=35∨x.o=36
 ·exact e8
 rw[if_neg c1]at h;clear c1;by_cases c1:x.o=29
 ·exact e8
 rw[if_neg c1]at h;clear c1;by_cases c1:x.o=30
 ·exact e8
 rw[if_neg c1]at h;clear c1;by_cases c1:x.o=31
 ·exact e8
 rw[if_neg c1]at h;clear c1;by_cases c1:x.o=32
 ·exact e8
 rw[if_neg c1]at h;clear c1;by_cases c1:x.o=33
 ·exact e8
 rw[if_neg c1]at h;clear c1;cases h
theorem s5{l:List Int}(h:Q3 l=true):okI (N2 l)=true∧R9 l≤l.length:=by
 unfold Q3 at h;unfold N2 R9;cases e:S5 l with
 |none=>rw[e]at h;cases h
 |some p=>
  obtain⟨x,n⟩:=p;obtain⟨h1,h2,_,_⟩:=A2l e;exact⟨h1,h2⟩
theorem CellsAt.range{w:World}{b:Nat}{cs:List Value}(h:CellsAt w b cs):w.rangeAt b 0 cs:=fun j v hj=>by rw[Nat.zero_add];exact(h j v hj).1
theorem CellsAt.there{w:World}{b:Nat}{cs ds:List Value}(h:CellsAt w b cs)(hl:ds.length=cs.length):w.there b 0 ds.toArray.size:=fun j hj=>by
 have:=h j _ (List.getElem?_eq_getElem (by rw[←hl];simpa using hj));rw[Nat.zero_add];exact⟨by rw[this.1];rfl,this.2⟩
theorem CellsAt.below{w w':World}{b:Nat}{cs:List Value}(h:CellsAt w b cs)(h0:0<cs.length)(hb:Below w.heap.size w w'):CellsAt w' b cs:=h.block (hb.block b (h.lt h0))
theorem M9(w:World)(cs:List Value)(t:TypeId):Below w.heap.size w (w.alloc (.cells cs.toArray t))∧CellsAt (w.alloc (.cells cs.toArray t)) w.heap.size cs:=
 ⟨(Below.refl _ _).alloc (Nat.le_refl _) _,R6 (t:=t) (N5 w _ t)⟩
theorem O5(w:World)(old:Array Value)(cs:List Value)(t:TypeId):Below w.heap.size w ((w.alloc (.cells old t)).setRow w.heap.size cs.toArray)∧CellsAt ((w.alloc (.cells old t)).setRow w.heap.size cs.toArray) w.heap.size cs∧((w.alloc (.cells old t)).setRow w.heap.size cs.toArray).heap.size=w.heap.size+1:=
 ⟨below_setRow ((Below.refl w.heap.size w).alloc (Nat.le_refl _) _) (Nat.le_refl _) _,R6 (t:=t) (setRow_heap (w.alloc (.cells old t)) w.heap.size old cs.toArray t (0,0) (N5 w old t)),by simp⟩
theorem E0{B b:Nat}{a:World}(hb:B≤b):∀(vs:List Value) (o:Nat) (w:World),Below B a w→Below B a (w.setCells b o vs)
 |[],_,_,h=>h
 |v::r,o,w,h=>E0 hb r (o+1) _ (h.setCell (p:=⟨b,o,none⟩) hb v)
theorem V3{P:Program}{w:World}{b:Nat}{cs:List Value}{ty:TypeId}{d:TypeDesc}(h:CellsAt w b cs)(hu:P.underlying ty=some d)(hd:d.isRow=true)(hi:(P.info? ty).map (·.size)=some cs.length):(loadVar ty ⟨b,0,none⟩).run P w= .ok (.agg cs.toArray) w:=
 run_loadVar_mid w b 0 ty cs d h.range hu hd hi
theorem A1W{P:Program}{fn:Func}{p:Tmp}{ty:TypeId}{tmps:Array Value}{w:World}{b:Nat}{cs:List Value}{d:TypeDesc}(hf:fn.results=#[.cell p ty])(hp:tmps.getD p undef= .pointer (some ⟨b,0,none⟩))(h:CellsAt w b cs)(hu:P.underlying ty=some d)(hd:d.isRow=true)(hi:(P.info? ty).map (·.size)=some cs.length):
  (results fn tmps).run P w= .ok (.agg cs.toArray) w:=by
 have hp':tmps[p]?.getD undef= .pointer (some ⟨b,0,none⟩):=by simpa using hp
 simp[results,hf,hp',asAddr,V3 h hu hd hi]
theorem A5i{P:Program}{fn:Func}{p u:Tmp}{ty:TypeId}{tmps:Array Value}{w:World}{b:Nat}{cs:List Value}{d:TypeDesc}{v:Value}(hf:fn.results=#[.cell p ty,.tmp u])(hp:tmps.getD p undef= .pointer (some ⟨b,0,none⟩))(hv:tmps.getD u undef=v)(h:CellsAt w b cs)(hu:P.underlying ty=some d)(hd:d.isRow=true)(hi:(P.info? ty).map (·.size)=some cs.length):
  (results fn tmps).run P w= .ok (.tuple #[.agg cs.toArray,v]) w:=by
 rw[results_cell_tmp hf,hp,hv];simp[asAddr,V3 h hu hd hi,Result.andThen]
theorem A2r{P:Program}{fn:Func}{p u u':Tmp}{ty:TypeId}{tmps:Array Value}{w:World}{b:Nat}{cs:List Value}{d:TypeDesc}{v v':Value}(hf:fn.results=#[.cell p ty,.tmp u,.tmp u'])(hp:tmps.getD p undef= .pointer (some ⟨b,0,none⟩))(hv:tmps.getD u undef=v)(hv':tmps.getD u' undef=v')(h:CellsAt w b cs)(hu:P.underlying ty=some d)(hd:d.isRow=true)(hi:(P.info? ty).map (·.size)=some cs.length):
  (results fn tmps).run P w= .ok (.tuple #[.agg cs.toArray,v,v']) w:=by
 have hp':tmps[p]?.getD undef= .pointer (some ⟨b,0,none⟩):=by simpa using hp
 have hv1:tmps[u]?.getD undef=v:=by simpa using hv
 have hv2:tmps[u']?.getD undef=v':=by simpa using hv'
 simp[results,hf,hp',hv1,hv2,asAddr,V3 h hu hd hi,Sem.run_bind,Result.andThen]
structure MOk(c:Mac):Prop where
 rl:c.r.length=32
 rb:∀k,0≤c.r.getD k 0∧c.r.getD k 0<4294967296
 ab:0≤c.a∧c.a<4294967296
 mb:Byt c.m
theorem MM.ok{base M:Nat}{mv:Value}{c:Mac}{w:World}(h:MM base M mv c w):MOk c:=⟨h.rl,h.rb,h.ab,h.mb⟩
def MemO(base:Nat)(w:World)(mv:Value)(m:List Int):Prop:=
 (m=[]∧mv= .slice none 0 0)∨∃D cap,mv= .slice (some ⟨D,0,none⟩) m.length cap∧m.length≤cap∧cap≤9223372036854775807∧base≤D∧OInts .u8 w D m
theorem MemO.below{base:Nat}{w w':World}{mv:Value}{m:List Int}(h:MemO base w mv m)(hb:Below w.heap.size w w'):MemO base w' mv m:=
 h.imp id fun⟨D,cap,e,h1,h2,h5,h6⟩=>⟨D,cap,e,h1,h2,h5,h6.below hb⟩
theorem OInts.setO{k:IntKind}{w:World}{D b j:Nat}{xs:List Int}(h:OInts k w D xs)(hD:D≠b)(u:Value):OInts k (w.setCell ⟨b,j,none⟩ u) D xs:=
 ⟨by simpa[World.setCell]using h.1,fun i hi=>⟨by rw[World.cell?_setCell_other _ _ _ _ (by intro hh;cases hh;exact hD rfl)];exact h.cell hi,by rw[World.frozen?_setCell];exact h.free hi⟩⟩
theorem MemO.set{base b j:Nat}{w:World}{mv:Value}{m:List Int}(h:MemO base w mv m)(hb:b<base)(u:Value):MemO base (w.setCell ⟨b,j,none⟩ u) mv m:=
 h.imp id fun⟨D,cap,e,h1,h2,h5,h6⟩=>⟨D,cap,e,h1,h2,h5,h6.setO (by omega) u⟩
theorem MemO.setCells{base b:Nat}{w:World}{mv:Value}{m:List Int}(h:MemO base w mv m)(hb:b<base)(vs:List Value):MemO base (w.setCells b 0 vs) mv m:=
 h.imp id fun⟨D,cap,e,h1,h2,h5,h6⟩=>⟨D,cap,e,h1,h2,h5,h6.setCells (by omega) vs⟩
theorem MemO.setCellsO{base b:Nat}{w:World}{mv:Value}{m:List Int}(h:MemO base w mv m)(hb:mv.ownBlock≠some b)(vs:List Value):MemO base (w.setCells b 0 vs) mv m:=
 h.imp id fun⟨D,cap,e,h1,h2,h5,h6⟩=>⟨D,cap,e,h1,h2,h5,h6.setCells (fun e'=>hb (by rw[e,e'];rfl)) vs⟩
theorem MemO.own{base:Nat}{w:World}{mv:Value}{m:List Int}(h:MemO base w mv m)(k:Nat)(hk:mv.ownBlock=some k):base≤k∧k<w.heap.size:=by
 rcases h with⟨_,e⟩|⟨D,cap,e,_,_,h5,h6⟩
 ·rw[e]at hk;cases hk
 ·rw[e]at hk;have:D=k:=by injection hk
  subst this;exact⟨h5,h6.1⟩
theorem MemO.low{base base':Nat}{w:World}{mv:Value}{m:List Int}(h:MemO base w mv m)(hb:base'≤base):MemO base' w mv m:=
 h.imp id fun⟨D,cap,e,h1,h2,h5,h6⟩=>⟨D,cap,e,h1,h2,Nat.le_trans hb h5,h6⟩
theorem MemO.ints{base:Nat}{w:World}{mv:Value}{m:List Int}(h:MemO base w mv m)(hl:m.length≤100000):Ints .u8 w mv m:=by
 rcases h with⟨e,e2⟩|⟨D,cap,e,h1,h2,h5,h6⟩
 ·rw[e,e2];exact⟨none,0,by simp,by simp,by decide,fun _=>rfl,fun i hi=>absurd hi (by simp)⟩
 ·rw[e];exact⟨some ⟨D,0,none⟩,cap,rfl,h1,⟨by omega,by omega⟩,(fun hh=>by cases hh),fun i hi=>⟨D,0,rfl,h6.1,by simpa using h6.cell hi⟩⟩
theorem RowI.memO{w:World}{base:Nat}{v:Value}{xs:List Int}(h:RowI w base 5 .u8 v xs):MemO base w v xs:=by
 obtain⟨_,⟨rfl,h0⟩|⟨g,cap,cur,rfl,hb,hg,h1,h2,h3,h4⟩⟩:=h
 ·exact Or.inl ⟨List.length_eq_zero_iff.1 h0,rfl⟩
 ·refine Or.inr ⟨g,cap,rfl,h1,by unfold maxLen at h2;omega,hb,?_,fun i hi=>?_⟩
  ·rcases Nat.lt_or_ge g w.heap.size with h|h
   ·exact h
   ·rw[Array.getElem?_eq_none h]at hg;cases hg
  ·have e1:w.cell? ⟨g,i,none⟩=cur.toList[i]? :=by simp[World.cell?,hg]
   have e2:(cur.toList.take (xs.length*1))[i]? =cur.toList[i]? :=by rw[List.getElem?_take,if_pos (by omega)]
   refine⟨?_,by simp[World.frozen?,hg]⟩;rw[e1,←e2,h4,List.getElem?_map,List.getElem?_eq_getElem hi,List.getD_eq_getElem?_getD,List.getElem?_eq_getElem hi];rfl
theorem MM.of{base M:Nat}{mv:Value}{c:Mac}{w:World}(h:CellsAt w M (A4 c mv))(hm:MemO base w mv c.m)(hM:mv.ownBlock≠some M)(hb:base≤M)(ho:MOk c)(hl:c.m.length≤32768)(hf:0≤c.f∧c.f≤15):MM base M mv c w:=
 ⟨h,hm.imp id fun⟨D,cap,e,h1,h2,h5,h6⟩=>⟨D,cap,e,h1,h2,(fun e'=>hM (by rw[e,e'];rfl)),h5,h6⟩,hb,ho.rl,ho.rb,hl,ho.mb,hf,ho.ab⟩
theorem MM.memO{base M:Nat}{mv:Value}{c:Mac}{w:World}(h:MM base M mv c w):MemO base w mv c.m:=
 h.v.imp id fun⟨D,cap,e,h1,h2,h3,h5,h6⟩=>⟨D,cap,e,h1,h2,h5,h6⟩
theorem B1{c:Mac}(h:c.r.length=32)(mv:Value):(A4 c mv).length=36:=by simp[A4,h]
theorem k7{c:Mac}(h:c.r.length=32)(mv mv':Value):(A4 c mv).set 34 mv'=A4 c mv':=by
 unfold A4;rw[List.set_append_right _ _ (by simp[h])];simp[h]
theorem p6{c:Mac}(h:c.r.length=32)(mv:Value)(e:Int):(A4 c mv).set 35 (.int .i64 e)=A4 {c with e:=e} mv:=by
 unfold A4;rw[List.set_append_right _ _ (by simp[h])];simp[h]
theorem G5{c:Mac}{mv:Value}(hmv:∃a l k,mv= .slice a l k):(A4 c mv).toArray.all (·.oneCell')=true:=by
 obtain⟨a,l,k,rfl⟩:=hmv;refine all_oneCell_toArray fun v hv=>?_
 unfold A4 at hv;rcases List.mem_append.1 hv with hv|hv
 ·obtain⟨y,_,rfl⟩:=List.mem_map.1 hv;rfl
 ·simp only[List.mem_cons,List.not_mem_nil,or_false]at hv;rcases hv with rfl|rfl|rfl|rfl<;>rfl
theorem Ints.isSlice{k:IntKind}{w:World}{v:Value}{xs:List Int}(h:Ints k w v xs):∃a l c,v= .slice a l c:=by
 obtain⟨a,c,rfl,_⟩:=h;exact⟨_,_,_,rfl⟩
theorem MemO.isSlice{base:Nat}{w:World}{mv:Value}{m:List Int}(h:MemO base w mv m):∃a l c,mv= .slice a l c:=by
 rcases h with⟨_,e⟩|⟨D,cap,e,_⟩<;>exact⟨_,_,_,e⟩
theorem CellsAt.tail4{w:World}{b:Nat}{c:Mac}{mv:Value}(h:CellsAt w b (A4 c mv))(hr:c.r.length=32)(k:Nat)(v:Value)(hv:([.int .i64 c.f,.int .u32 c.a,mv,.int .i64 c.e]:List Value)[k]? =some v):w.cell? ⟨b,32+k,none⟩=some v∧w.frozen? ⟨b,32+k,none⟩=false:=by
 refine h (32+k) v ?_;unfold A4;rw[List.getElem?_append_right (by simp[hr])];simp only[List.length_map,hr,Nat.add_sub_cancel_left];exact hv
theorem CellsAt.tails{w:World}{b:Nat}{c:Mac}{mv:Value}(h:CellsAt w b (A4 c mv))(hr:c.r.length=32):
  (w.cell? ⟨b,32,none⟩=some (.int .i64 c.f)∧w.frozen? ⟨b,32,none⟩=false)∧(w.cell? ⟨b,33,none⟩=some (.int .u32 c.a)∧w.frozen? ⟨b,33,none⟩=false)∧(w.cell? ⟨b,34,none⟩=some mv∧w.frozen? ⟨b,34,none⟩=false)∧(w.cell? ⟨b,35,none⟩=some (.int .i64 c.e)∧w.frozen? ⟨b,35,none⟩=false):=
 ⟨h.tail4 hr 0 _ rfl,h.tail4 hr 1 _ rfl,h.tail4 hr 2 _ rfl,h.tail4 hr 3 _ rfl⟩
def G3:Mac:=⟨List.replicate 32 0,0,0,[],0⟩
end Go.Proofs.YtdojafpjipcbjaaGreat
