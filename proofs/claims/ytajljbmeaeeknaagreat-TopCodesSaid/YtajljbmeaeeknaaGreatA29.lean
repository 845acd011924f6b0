/- -/
import Derived.Laws.Tables
import Derived.Laws.CopyOwn
import Derived.Test.YtajljbmeaeeknaaGreatA20
import Derived.Test.YtajljbmeaeeknaaGreatA21
import Derived.Test.YtajljbmeaeeknaaGreatA25
import Derived.Test.YtajljbmeaeeknaaGreatA27
import Derived.Test.YtajljbmeaeeknaaGreatA28
open Go.Proofs.Tryz
open Go.Lib (hid)
set_option maxHeartbeats 1000000
set_option maxRecDepth 100000
namespace Go.Proofs.YtajljbmeaeeknaaGreat
open Go.RowKit Go.Maps
set_option linter.unusedVariables false
set_option linter.unusedSimpArgs false
theorem v8{p:Prop}(h:p:=by
 rw[if_pos c1]at h;simp only[isR,isM,isL,isC,Bool.and_eq_true,decide_eq_true_eq,beq_iff_eq,bne_iff_ne]at h;omega
 ):p:=h
def B5W(d s:Nat)(i z:Int)(c:Mac):Mac:={c with r:=c.r.set d (wrR (c.r.getD d 0) (c.r.getD s 0%pwZ z) z)}
def B5V(d s:Nat)(i z:Int)(c:Mac):Mac:={c with r:=c.r.set d (wrR (c.r.getD d 0) (i%4294967296) z)}
def B5U(d s:Nat)(i z:Int)(c:Mac):Mac:={c with r:=c.r.set d (wrR (c.r.getD d 0) (adN (c.r.getD d 0%pwZ z) (c.r.getD s 0%pwZ z) z) z),f:=rsF (adN (c.r.getD d 0%pwZ z) (c.r.getD s 0%pwZ z) z) z (adO (c.r.getD d 0%pwZ z) (c.r.getD s 0%pwZ z) z)}
def B5T(d s:Nat)(i z:Int)(c:Mac):Mac:={c with r:=c.r.set d (wrR (c.r.getD d 0) (orW (c.r.getD d 0%pwZ z) (c.r.getD s 0%pwZ z)) z),f:=rsF (orW (c.r.getD d 0%pwZ z) (c.r.getD s 0%pwZ z)) z 0}
def B5S(d s:Nat)(i z:Int)(c:Mac):Mac:={c with r:=c.r.set d (wrR (c.r.getD d 0) (anW (c.r.getD d 0%pwZ z) (c.r.getD s 0%pwZ z)) z),f:=rsF (anW (c.r.getD d 0%pwZ z) (c.r.getD s 0%pwZ z)) z 0}
def B0c(d s:Nat)(i z:Int)(c:Mac):Mac:={c with r:=c.r.set d (wrR (c.r.getD d 0) (suN (c.r.getD d 0%pwZ z) (c.r.getD s 0%pwZ z) z) z),f:=rsF (suN (c.r.getD d 0%pwZ z) (c.r.getD s 0%pwZ z) z) z (suO (c.r.getD d 0%pwZ z) (c.r.getD s 0%pwZ z) z)}
def B0b(d s:Nat)(i z:Int)(c:Mac):Mac:={c with r:=c.r.set d (wrR (c.r.getD d 0) (xoW (c.r.getD d 0%pwZ z) (c.r.getD s 0%pwZ z)) z),f:=rsF (xoW (c.r.getD d 0%pwZ z) (c.r.getD s 0%pwZ z)) z 0}
def B0a(d s:Nat)(i z:Int)(c:Mac):Mac:={c with f:=rsF (suN (c.r.getD d 0%pwZ z) (c.r.getD s 0%pwZ z) z) z (suO (c.r.getD d 0%pwZ z) (c.r.getD s 0%pwZ z) z)}
def B0Z(d s:Nat)(i z:Int)(c:Mac):Mac:={c with f:=rsF (anW (c.r.getD d 0%pwZ z) (c.r.getD s 0%pwZ z)) z 0}
def B0Y(d s:Nat)(i z:Int)(c:Mac):Mac:={c with r:=c.r.set d (wrR (c.r.getD d 0) (adN (c.r.getD d 0%pwZ z) (i%4294967296) z) z),f:=rsF (adN (c.r.getD d 0%pwZ z) (i%4294967296) z) z (adO (c.r.getD d 0%pwZ z) (i%4294967296) z)}
def B0X(d s:Nat)(i z:Int)(c:Mac):Mac:={c with r:=c.r.set d (wrR (c.r.getD d 0) (orW (c.r.getD d 0%pwZ z) (i%4294967296)) z),f:=rsF (orW (c.r.getD d 0%pwZ z) (i%4294967296)) z 0}
def B0W(d s:Nat)(i z:Int)(c:Mac):Mac:={c with r:=c.r.set d (wrR (c.r.getD d 0) (anW (c.r.getD d 0%pwZ z) (i%4294967296)) z),f:=rsF (anW (c.r.getD d 0%pwZ z) (i%4294967296)) z 0}
def B0V(d s:Nat)(i z:Int)(c:Mac):Mac:={c with r:=c.r.set d (wrR (c.r.getD d 0) (suN (c.r.getD d 0%pwZ z) (i%4294967296) z) z),f:=rsF (suN (c.r.getD d 0%pwZ z) (i%4294967296) z) z (suO (c.r.getD d 0%pwZ z) (i%4294967296) z)}
def B0U(d s:Nat)(i z:Int)(c:Mac):Mac:={c with r:=c.r.set d (wrR (c.r.getD d 0) (xoW (c.r.getD d 0%pwZ z) (i%4294967296)) z),f:=rsF (xoW (c.r.getD d 0%pwZ z) (i%4294967296)) z 0}
def B0T(d s:Nat)(i z:Int)(c:Mac):Mac:={c with f:=rsF (suN (c.r.getD d 0%pwZ z) (i%4294967296) z) z (suO (c.r.getD d 0%pwZ z) (i%4294967296) z)}
def A7K(d s:Nat)(i z:Int)(c:Mac):Mac:=(A6W d s c)
def A7J(d s:Nat)(i z:Int)(c:Mac):Mac:=(shM 21 z d c)
def A7I(d s:Nat)(i z:Int)(c:Mac):Mac:=(shM 22 z d c)
def A7H(d s:Nat)(i z:Int)(c:Mac):Mac:=(shM 23 z d c)
def B0S(d s:Nat)(i z:Int)(c:Mac):Mac:={c with r:=c.r.set d (wrR (c.r.getD d 0) (4294967295-(c.r.getD d 0%pwZ z)) z)}
def B0R(d s:Nat)(i z:Int)(c:Mac):Mac:={c with r:=c.r.set d (wrR (c.r.getD d 0) (suN 0 (c.r.getD d 0%pwZ z) z) z),f:=rsF (suN 0 (c.r.getD d 0%pwZ z) z) z (suO 0 (c.r.getD d 0%pwZ z) z)}
def B0Q(d s:Nat)(i z:Int)(c:Mac):Mac:={c with r:=c.r.set 2 (cdV (c.r.getD 0 0))}
def B0P(d s:Nat)(i z:Int)(c:Mac):Mac:={c with r:=c.r.set d (c.r.getD d 0 / 256*256+(if hoB s c.f=true then 1 else 0))}
def B0O(d s:Nat)(i z:Int)(c:Mac):Mac:={c with r:=c.r.set d (c.r.getD s 0%256)}
def A7G(d s:Nat)(i z:Int)(c:Mac):Mac:=(if hoB i c.f=true then{c with r:=c.r.set d (c.r.getD s 0)}else c)
def B0N(d s:Nat)(i z:Int)(c:Mac):Mac:={c with e:=1}
def B0M(d s:Nat)(i z:Int)(c:Mac):Mac:={c with e:=2}
def ldM(d s k:Nat)(i z:Int)(c:Mac):Option Mac:=if(atM c s i).toNat+k≤c.m.length then some {c with r:=c.r.set d (wrR (c.r.getD d 0) (ldV c.m (atM c s i).toNat k) z)}else none
def stM(d s k:Nat)(i z:Int)(c:Mac):Option Mac:=if(atM c d i).toNat+k≤c.m.length then some {c with m:=x7 c.m (atM c d i).toNat (leB (c.r.getD s 0) k)}else none
def exO(o:Int)(d s:Nat)(i z:Int)(c:Mac):Option Mac:=
 if o=0 then some (B5W d s i z c)
 else if o=1 then some (B5V d s i z c)
 else if o=2 then ldM d s (if z=16 then 2 else 4) i z c
 else if o=3 then stM d s (if z=16 then 2 else 4) i z c
 else if o=4 then ldM d s 1 i z c
 else if o=5 then ldM d s 2 i z c
 else if o=6 then stM d s 1 i z c
 else if o=7 then some (B5U d s i z c)
 else if o=8 then some (B5T d s i z c)
 else if o=9 then some (B5S d s i z c)
 else if o=10 then some (B0c d s i z c)
 else if o=11 then some (B0b d s i z c)
 else if o=12 then some (B0a d s i z c)
 else if o=13 then some (B0Z d s i z c)
 else if o=14 then some (B0Y d s i z c)
 else if o=15 then some (B0X d s i z c)
 else if o=16 then some (B0W d s i z c)
 else if o=17 then some (B0V d s i z c)
 else if o=18 then some (B0U d s i z c)
 else if o=19 then some (B0T d s i z c)
 else if o=20 then some (A7K d s i z c)
 else if o=21 then some (A7J d s i z c)
 else if o=22 then some (A7I d s i z c)
 else if o=23 then some (A7H d s i z c)
 else if o=24 then some (B0S d s i z c)
 else if o=25 then some (B0R d s i z c)
 else if o=26 then f8 d c
 else if o=27 then x9 d c
 else if o=28 then some (B0Q d s i z c)
 else if o=29 then some (B0P d s i z c)
 else if o=30 then some (B0O d s i z c)
 else if o=31 then some (A7G d s i z c)
 else if o=32 then some c
 else if o=33 then some c
 else if o=34 then some (B0N d s i z c)
 else if o=35 then some (B0M d s i z c)
 else if o=36 then some c
 else some c
def exM(x:Ins)(z:Int)(c:Mac):Option Mac:=exO x.o x.d.toNat x.s.toNat x.i z c
def ExP(base T M:Nat)(mv:Value)(x:Ins)(z:Int)(c:Mac)(o:Option Mac)(w w':World):Prop:=
 (match o with|some c'=>MSt base T M mv x z false c' w'|none=>∃c',MSt base T M mv x z true c' w'∧c'.m=c.m)∧Ch T M mv w w'
theorem A3z(n:Int):isC n=true↔0≤n∧n≤15∧n≠10∧n≠11:=by simp[isC]
theorem A1u{x:Ins}(h:G7 x=true):(0≤x.o∧x.o≤36)∧(0≤x.d∧x.d<32)∧(0≤x.s∧x.s<32)∧(x.o=29→isC x.s=true)∧(x.o=31→isC x.i=true):=by
 unfold G7 at h;rw[A3z,A3z];by_cases c1:x.o=0∨(7≤x.o∧x.o≤13)∨x.o=20
 ·exact v8
 rw[if_neg c1]at h;clear c1;by_cases c1:x.o=1∨(14≤x.o∧x.o≤19)
 ·exact v8
 rw[if_neg c1]at h;clear c1;by_cases c1:x.o=2∨x.o=4∨x.o=5
 ·exact v8
 rw[if_neg c1]at h;clear c1;by_cases c1:x.o=3
 ·exact v8
 rw[if_neg c1]at h;clear c1;by_cases c1:x.o=6
 ·exact v8
 rw[if_neg c1]at h;clear c1;by_cases c1:21≤x.o∧x.o≤27
 ·exact v8
 rw[if_neg c1]at h;clear c1;by_cases c1:x.o=28∨x.o=34∨x.o=35∨x.o=36
 ·exact v8
 rw[if_neg c1]at h;clear c1;by_cases c1:x.o=29
 ·exact v8
 rw[if_neg c1]at h;clear c1;by_cases c1:x.o=30
 ·exact v8
 rw[if_neg c1]at h;clear c1;by_cases c1:x.o=31
 ·exact v8
 rw[if_neg c1]at h;clear c1;by_cases c1:x.o=32
 ·exact v8
 rw[if_neg c1]at h;clear c1;by_cases c1:x.o=33
 ·exact v8
 rw[if_neg c1]at h;clear c1;cases h
section
variable {base T M : Nat} {mv : Value} {x : Ins} {z : Int} {c c' : Mac} {w w' : World}
theorem ExP.ok(h:MSt base T M mv x z false c' w'∧Ch T M mv w w'):ExP base T M mv x z c (some c') w w':=h
theorem ExP.bad(h:MSt base T M mv x z true c' w'∧Ch T M mv w w')(hm:c'.m=c.m):ExP base T M mv x z c none w w':=⟨⟨c',h.1,hm⟩,h.2⟩
theorem ExP.div{o:Option Mac}(h:MSt base T M mv x z (A3c o false) (o.getD c) w'∧Ch T M mv w w'):ExP base T M mv x z c o w w':=by
 cases o with
 |none=>exact⟨⟨c,h.1,rfl⟩,h.2⟩
 |some c'=>exact h
theorem MSt.where(h:MSt base T M mv x z false c w){q k:Nat}(hk:0<k)(hg:q+k≤c.m.length):∃D cap,mv= .slice (some ⟨D,0,none⟩) c.m.length cap∧c.m.length≤cap∧cap≤9223372036854775807:=by
 rcases h.v with⟨e,_⟩|⟨D,cap,e,h1,h2,_⟩
 ·rw[e]at hg;simp at hg;omega
 ·exact⟨D,cap,e,h1,h2⟩
theorem O9(c:Mac)(s:Nat)(i:Int):atM c s i=((atM c s i).toNat:Int):=by
 have:0≤atM c s i:=Int.emod_nonneg _ (by decide);omega
theorem A6c(d s:Nat)(hd:d<32)(hs:s<32)(w:World)(h:MSt base T M mv x 16 false c w)(hxo:x.o=2)(hxd:x.d=(d:Int))(hxs:x.s=(s:Int))(hi:I64 x.i):Calls prog 116 #[.pointer (some ⟨T,0,none⟩)] w fun e w'=>e= .returned (.tuple #[])∧ExP base T M mv x 16 c (ldM d s 2 x.i 16 c) w w':=by
 unfold ldM
 split
 ·rename_i hg
  obtain⟨D,cap,hmv,h1,h2⟩:=h.where (by decide:0<2) hg
  exact(A1L d s hd hs w h hxo hxd hxs D cap hmv h1 h2 _ (O9 c s x.i) hg).mono fun e w' h'=>⟨h'.1,ExP.ok h'.2⟩
 ·rename_i hg
  have:=O9 c s x.i;exact(A0S d s hd hs w h hxo hxd hxs hi (by omega)).mono fun e w' h'=>⟨h'.1,ExP.bad h'.2 rfl⟩
theorem A6b(d s:Nat)(hd:d<32)(hs:s<32)(w:World)(h:MSt base T M mv x 32 false c w)(hxo:x.o=2)(hxd:x.d=(d:Int))(hxs:x.s=(s:Int))(hi:I64 x.i):Calls prog 116 #[.pointer (some ⟨T,0,none⟩)] w fun e w'=>e= .returned (.tuple #[])∧ExP base T M mv x 32 c (ldM d s 4 x.i 32 c) w w':=by
 unfold ldM
 split
 ·rename_i hg
  obtain⟨D,cap,hmv,h1,h2⟩:=h.where (by decide:0<4) hg
  exact(A1K d s hd hs w h hxo hxd hxs D cap hmv h1 h2 _ (O9 c s x.i) hg).mono fun e w' h'=>⟨h'.1,ExP.ok h'.2⟩
 ·rename_i hg
  have:=O9 c s x.i;exact(A0R d s hd hs w h hxo hxd hxs hi (by omega)).mono fun e w' h'=>⟨h'.1,ExP.bad h'.2 rfl⟩
theorem A6a(d s:Nat)(hd:d<32)(hs:s<32)(w:World)(h:MSt base T M mv x 16 false c w)(hxo:x.o=3)(hxd:x.d=(d:Int))(hxs:x.s=(s:Int))(hi:I64 x.i):Calls prog 116 #[.pointer (some ⟨T,0,none⟩)] w fun e w'=>e= .returned (.tuple #[])∧ExP base T M mv x 16 c (stM d s 2 x.i 16 c) w w':=by
 unfold stM
 split
 ·rename_i hg
  obtain⟨D,cap,hmv,h1,h2⟩:=h.where (by decide:0<2) hg
  exact(A1J d s hd hs w h hxo hxd hxs D cap hmv h1 h2 _ (O9 c d x.i) hg).mono fun e w' h'=>⟨h'.1,ExP.ok h'.2⟩
 ·rename_i hg
  have:=O9 c d x.i;exact(A0Q d s hd hs w h hxo hxd hxs hi (by omega)).mono fun e w' h'=>⟨h'.1,ExP.bad h'.2 rfl⟩
theorem A6Z(d s:Nat)(hd:d<32)(hs:s<32)(w:World)(h:MSt base T M mv x 32 false c w)(hxo:x.o=3)(hxd:x.d=(d:Int))(hxs:x.s=(s:Int))(hi:I64 x.i):Calls prog 116 #[.pointer (some ⟨T,0,none⟩)] w fun e w'=>e= .returned (.tuple #[])∧ExP base T M mv x 32 c (stM d s 4 x.i 32 c) w w':=by
 unfold stM
 split
 ·rename_i hg
  obtain⟨D,cap,hmv,h1,h2⟩:=h.where (by decide:0<4) hg
  exact(A1I d s hd hs w h hxo hxd hxs D cap hmv h1 h2 _ (O9 c d x.i) hg).mono fun e w' h'=>⟨h'.1,ExP.ok h'.2⟩
 ·rename_i hg
  have:=O9 c d x.i;exact(A0P d s hd hs w h hxo hxd hxs hi (by omega)).mono fun e w' h'=>⟨h'.1,ExP.bad h'.2 rfl⟩
theorem B4b(d s:Nat)(hd:d<32)(hs:s<32)(w:World)(h:MSt base T M mv x z false c w)(hxo:x.o=4)(hxd:x.d=(d:Int))(hxs:x.s=(s:Int))(hi:I64 x.i):Calls prog 116 #[.pointer (some ⟨T,0,none⟩)] w fun e w'=>e= .returned (.tuple #[])∧ExP base T M mv x z c (ldM d s 1 x.i z c) w w':=by
 unfold ldM
 split
 ·rename_i hg
  obtain⟨D,cap,hmv,h1,h2⟩:=h.where (by decide:0<1) hg
  exact(A5E d s hd hs w h hxo hxd hxs D cap hmv h1 h2 _ (O9 c s x.i) hg).mono fun e w' h'=>⟨h'.1,ExP.ok h'.2⟩
 ·rename_i hg
  have:=O9 c s x.i;exact(A3X d s hd hs w h hxo hxd hxs hi (by omega)).mono fun e w' h'=>⟨h'.1,ExP.bad h'.2 rfl⟩
theorem B4a(d s:Nat)(hd:d<32)(hs:s<32)(w:World)(h:MSt base T M mv x z false c w)(hxo:x.o=5)(hxd:x.d=(d:Int))(hxs:x.s=(s:Int))(hi:I64 x.i):Calls prog 116 #[.pointer (some ⟨T,0,none⟩)] w fun e w'=>e= .returned (.tuple #[])∧ExP base T M mv x z c (ldM d s 2 x.i z c) w w':=by
 unfold ldM
 split
 ·rename_i hg
  obtain⟨D,cap,hmv,h1,h2⟩:=h.where (by decide:0<2) hg
  exact(A5D d s hd hs w h hxo hxd hxs D cap hmv h1 h2 _ (O9 c s x.i) hg).mono fun e w' h'=>⟨h'.1,ExP.ok h'.2⟩
 ·rename_i hg
  have:=O9 c s x.i;exact(A3W d s hd hs w h hxo hxd hxs hi (by omega)).mono fun e w' h'=>⟨h'.1,ExP.bad h'.2 rfl⟩
theorem B4Z(d s:Nat)(hd:d<32)(hs:s<32)(w:World)(h:MSt base T M mv x z false c w)(hxo:x.o=6)(hxd:x.d=(d:Int))(hxs:x.s=(s:Int))(hi:I64 x.i):Calls prog 116 #[.pointer (some ⟨T,0,none⟩)] w fun e w'=>e= .returned (.tuple #[])∧ExP base T M mv x z c (stM d s 1 x.i z c) w w':=by
 unfold stM
 split
 ·rename_i hg
  obtain⟨D,cap,hmv,h1,h2⟩:=h.where (by decide:0<1) hg
  exact(A5C d s hd hs w h hxo hxd hxs D cap hmv h1 h2 _ (O9 c d x.i) hg).mono fun e w' h'=>⟨h'.1,ExP.ok h'.2⟩
 ·rename_i hg
  have:=O9 c d x.i;exact(A3V d s hd hs w h hxo hxd hxs hi (by omega)).mono fun e w' h'=>⟨h'.1,ExP.bad h'.2 rfl⟩
theorem A2Z(d s:Nat)(hd:d<32)(hs:s<32)(w:World)(h:MSt base T M mv x z false c w)(o0:0≤x.o∧x.o≤36)(hxd:x.d=(d:Int))(hxs:x.s=(s:Int))(hi:I64 x.i)(h29:x.o=29→isC (s:Int)=true)(h31:x.o=31→isC x.i=true):Calls prog 116 #[.pointer (some ⟨T,0,none⟩)] w fun e w'=>e= .returned (.tuple #[])∧ExP base T M mv x z c (exO x.o d s x.i z c) w w':=by
 have ho:x.o=0∨x.o=1∨x.o=2∨x.o=3∨x.o=4∨x.o=5∨x.o=6∨x.o=7∨x.o=8∨x.o=9∨x.o=10∨x.o=11∨x.o=12∨x.o=13∨x.o=14∨x.o=15∨x.o=16∨x.o=17∨x.o=18∨x.o=19∨x.o=20∨x.o=21∨x.o=22∨x.o=23∨x.o=24∨x.o=25∨x.o=26∨x.o=27∨x.o=28∨x.o=29∨x.o=30∨x.o=31∨x.o=32∨x.o=33∨x.o=34∨x.o=35∨x.o=36:=by omega
 rcases ho with e|e|e|e|e|e|e|e|e|e|e|e|e|e|e|e|e|e|e|e|e|e|e|e|e|e|e|e|e|e|e|e|e|e|e|e|e
 ·rw[e,show exO 0 d s x.i z c=some (B5W d s x.i z c)from rfl];exact(B2f d s hd hs w h e hxd hxs).mono fun e w' h'=>⟨h'.1,ExP.ok h'.2⟩
 ·rw[e,show exO 1 d s x.i z c=some (B5V d s x.i z c)from rfl];exact(B2e d s hd hs w h e hxd hxs).mono fun e w' h'=>⟨h'.1,ExP.ok h'.2⟩
 ·rw[e,show exO 2 d s x.i z c=ldM d s (if z=16 then 2 else 4) x.i z c from rfl];rcases h.zz with rfl|rfl
  ·exact A6c d s hd hs w h e hxd hxs hi
  ·exact A6b d s hd hs w h e hxd hxs hi
 ·rw[e,show exO 3 d s x.i z c=stM d s (if z=16 then 2 else 4) x.i z c from rfl];rcases h.zz with rfl|rfl
  ·exact A6a d s hd hs w h e hxd hxs hi
  ·exact A6Z d s hd hs w h e hxd hxs hi
 ·rw[e,show exO 4 d s x.i z c=ldM d s 1 x.i z c from rfl];exact B4b d s hd hs w h e hxd hxs hi
 ·rw[e,show exO 5 d s x.i z c=ldM d s 2 x.i z c from rfl];exact B4a d s hd hs w h e hxd hxs hi
 ·rw[e,show exO 6 d s x.i z c=stM d s 1 x.i z c from rfl];exact B4Z d s hd hs w h e hxd hxs hi
 ·rw[e,show exO 7 d s x.i z c=some (B5U d s x.i z c)from rfl];exact(B2d d s hd hs w h e hxd hxs).mono fun e w' h'=>⟨h'.1,ExP.ok h'.2⟩
 ·rw[e,show exO 8 d s x.i z c=some (B5T d s x.i z c)from rfl];exact(B2c d s hd hs w h e hxd hxs).mono fun e w' h'=>⟨h'.1,ExP.ok h'.2⟩
 ·rw[e,show exO 9 d s x.i z c=some (B5S d s x.i z c)from rfl];exact(B2b d s hd hs w h e hxd hxs).mono fun e w' h'=>⟨h'.1,ExP.ok h'.2⟩
 ·rw[e,show exO 10 d s x.i z c=some (B0c d s x.i z c)from rfl];exact(A9d d s hd hs w h e hxd hxs).mono fun e w' h'=>⟨h'.1,ExP.ok h'.2⟩
 ·rw[e,show exO 11 d s x.i z c=some (B0b d s x.i z c)from rfl];exact(A9c d s hd hs w h e hxd hxs).mono fun e w' h'=>⟨h'.1,ExP.ok h'.2⟩
 ·rw[e,show exO 12 d s x.i z c=some (B0a d s x.i z c)from rfl];exact(A9b d s hd hs w h e hxd hxs).mono fun e w' h'=>⟨h'.1,ExP.ok h'.2⟩
 ·rw[e,show exO 13 d s x.i z c=some (B0Z d s x.i z c)from rfl];exact(A9a d s hd hs w h e hxd hxs).mono fun e w' h'=>⟨h'.1,ExP.ok h'.2⟩
 ·rw[e,show exO 14 d s x.i z c=some (B0Y d s x.i z c)from rfl];exact(A9Z d s hd hs w h e hxd hxs).mono fun e w' h'=>⟨h'.1,ExP.ok h'.2⟩
 ·rw[e,show exO 15 d s x.i z c=some (B0X d s x.i z c)from rfl];exact(A9Y d s hd hs w h e hxd hxs).mono fun e w' h'=>⟨h'.1,ExP.ok h'.2⟩
 ·rw[e,show exO 16 d s x.i z c=some (B0W d s x.i z c)from rfl];exact(A9X d s hd hs w h e hxd hxs).mono fun e w' h'=>⟨h'.1,ExP.ok h'.2⟩
 ·rw[e,show exO 17 d s x.i z c=some (B0V d s x.i z c)from rfl];exact(A9W d s hd hs w h e hxd hxs).mono fun e w' h'=>⟨h'.1,ExP.ok h'.2⟩
 ·rw[e,show exO 18 d s x.i z c=some (B0U d s x.i z c)from rfl];exact(A9V d s hd hs w h e hxd hxs).mono fun e w' h'=>⟨h'.1,ExP.ok h'.2⟩
 ·rw[e,show exO 19 d s x.i z c=some (B0T d s x.i z c)from rfl];exact(A9U d s hd hs w h e hxd hxs).mono fun e w' h'=>⟨h'.1,ExP.ok h'.2⟩
 ·rw[e,show exO 20 d s x.i z c=some (A7K d s x.i z c)from rfl];exact(A9T d s hd hs w h e hxd hxs).mono fun e w' h'=>⟨h'.1,ExP.ok h'.2⟩
 ·rw[e,show exO 21 d s x.i z c=some (A7J d s x.i z c)from rfl];exact(A9S d s hd hs w h e hxd hxs).mono fun e w' h'=>⟨h'.1,ExP.ok h'.2⟩
 ·rw[e,show exO 22 d s x.i z c=some (A7I d s x.i z c)from rfl];exact(A9R d s hd hs w h e hxd hxs).mono fun e w' h'=>⟨h'.1,ExP.ok h'.2⟩
 ·rw[e,show exO 23 d s x.i z c=some (A7H d s x.i z c)from rfl];exact(A9Q d s hd hs w h e hxd hxs).mono fun e w' h'=>⟨h'.1,ExP.ok h'.2⟩
 ·rw[e,show exO 24 d s x.i z c=some (B0S d s x.i z c)from rfl];exact(A9P d s hd hs w h e hxd hxs).mono fun e w' h'=>⟨h'.1,ExP.ok h'.2⟩
 ·rw[e,show exO 25 d s x.i z c=some (B0R d s x.i z c)from rfl];exact(A9O d s hd hs w h e hxd hxs).mono fun e w' h'=>⟨h'.1,ExP.ok h'.2⟩
 ·rw[e,show exO 26 d s x.i z c=f8 d c from rfl];exact(A9N d s hd hs w h e hxd hxs).mono fun e w' h'=>⟨h'.1,ExP.div h'.2⟩
 ·rw[e,show exO 27 d s x.i z c=x9 d c from rfl];exact(A9M d s hd hs w h e hxd hxs).mono fun e w' h'=>⟨h'.1,ExP.div h'.2⟩
 ·rw[e,show exO 28 d s x.i z c=some (B0Q d s x.i z c)from rfl];exact(A9L d s hd hs w h e hxd hxs).mono fun e w' h'=>⟨h'.1,ExP.ok h'.2⟩
 ·rw[e,show exO 29 d s x.i z c=some (B0P d s x.i z c)from rfl];exact(A9K d s hd hs w h e hxd hxs (h29 e)).mono fun e w' h'=>⟨h'.1,ExP.ok h'.2⟩
 ·rw[e,show exO 30 d s x.i z c=some (B0O d s x.i z c)from rfl];exact(A9J d s hd hs w h e hxd hxs).mono fun e w' h'=>⟨h'.1,ExP.ok h'.2⟩
 ·rw[e,show exO 31 d s x.i z c=some (A7G d s x.i z c)from rfl];exact(A9I d s hd hs w h e hxd hxs (h31 e)).mono fun e w' h'=>⟨h'.1,ExP.ok h'.2⟩
 ·rw[e,show exO 32 d s x.i z c=some c from rfl];exact(A9H d s hd hs w h e hxd hxs).mono fun e w' h'=>⟨h'.1,ExP.ok h'.2⟩
 ·rw[e,show exO 33 d s x.i z c=some c from rfl];exact(A9G d s hd hs w h e hxd hxs).mono fun e w' h'=>⟨h'.1,ExP.ok h'.2⟩
 ·rw[e,show exO 34 d s x.i z c=some (B0N d s x.i z c)from rfl];exact(A9F d s hd hs w h e hxd hxs).mono fun e w' h'=>⟨h'.1,ExP.ok h'.2⟩
 ·rw[e,show exO 35 d s x.i z c=some (B0M d s x.i z c)from rfl];exact(A9E d s hd hs w h e hxd hxs).mono fun e w' h'=>⟨h'.1,ExP.ok h'.2⟩
 ·rw[e,show exO 36 d s x.i z c=some c from rfl];exact(A9D d s hd hs w h e hxd hxs).mono fun e w' h'=>⟨h'.1,ExP.ok h'.2⟩
theorem A2a(w:World)(h:MSt base T M mv x z false c w)(hx:G7 x=true)(hi:I64 x.i):Calls prog 116 #[.pointer (some ⟨T,0,none⟩)] w fun e w'=>e= .returned (.tuple #[])∧ExP base T M mv x z c (exM x z c) w w':=by
 obtain⟨h1,h2,h3,h4,h5⟩:=A1u hx;have e1:x.d=(x.d.toNat:Int):=by omega
 have e2:x.s=(x.s.toNat:Int):=by omega
 exact A2Z x.d.toNat x.s.toNat (by omega) (by omega) w h h1 e1 e2 hi (fun e=>by rw[←e2];exact h4 e) h5
end
end Go.Proofs.YtajljbmeaeeknaaGreat
namespace Go.Proofs.YtajljbmeaeeknaaGreat
open Go.RowKit
set_option linter.unusedVariables false
set_option linter.unusedSimpArgs false
def A4m(x:Ins)(f:Int):Bool:=if x.o=33 then true else if x.o=32 then hoB x.s f else false
theorem A3M(x:Ins)(f:Int)(w:World)(hc:x.o=32→isC x.s=true)(h0:0≤f)(h1:f≤15):Calls prog 117 #[L9 x,.int .i64 f] w fun e w'=>e= .returned (.bool (A4m x f))∧Below w.heap.size w w':=by
 have b0:=hid ((Below.refl w.heap.size w).alloc (Nat.le_refl _) (.cells #[.int .i64 x.o,.int .i64 x.d,.int .i64 x.s,.int .i64 x.z,.int .i64 x.i] 89));unfold A4m L9;by_cases e3:x.o=33
 ·rw[if_pos e3];rw[e3]at b0⊢;go_enter func117,ntmps117;go_wp2_with fail
  go_ret;exact⟨rfl,b0.out⟩
 ·rw[if_neg e3];have d3:(x.o==33)=false:=by simpa using e3
  by_cases e2:x.o=32
  ·rw[if_pos e2];have CH:=hid (fun wk=>p8 x.s f wk (hc e2) h0 h1);rw[e2]at b0 d3⊢;generalize hoB x.s f=hb at*
   clear hc e3 e2;go_enter func117,ntmps117;go_wp2_with((with_reducible refine(CH.out _).mono ?_);rintro e w1 ⟨rfl,hb1⟩)
   go_ret;exact⟨rfl,b0.out.trans (hb1.mono (by simp))⟩
  ·rw[if_neg e2];have d2:(x.o==32)=false:=by simpa using e2
   clear hc e3 e2;generalize x.o=o at*
   go_enter func117,ntmps117;go_wp2_with fail
   go_ret;exact⟨rfl,b0.out⟩
def A1e(x:Ins)(n:Nat)(c:Mac):Mac:=
 match exM x (max x.z 16) c with
 |none=>{c with e:=3}
 |some c'=>if c'.e=0 then{c' with a:=(c'.a+n+(if A4m x c.f=true then x.i else 0))%4294967296}else c'
def L3(c:Mac):Mac:=
 if c.a.toNat<c.m.length∧m5 (c.m.drop c.a.toNat)=true then A1e (V5 (c.m.drop c.a.toNat)) (r8 (c.m.drop c.a.toNat)) c else{c with e:=3}
def L1:Nat→Mac→Mac×Nat
 |0,c=>(c,0)
 |k+1,c=>if c.e=0 then(if(L3 c).e=3 then(L3 c,0)else((L1 k (L3 c)).1,(L1 k (L3 c)).2+1))else(c,0)
def t9(c:Mac):Int:=if 32768<c.m.length∨c.f<0∨15<c.f then 1 else 0
structure Fq(p q:Mac):Prop where
 r:p.r=q.r
 a:p.a=q.a
 m:p.m=q.m
 e:p.e=q.e
end Go.Proofs.YtajljbmeaeeknaaGreat
namespace Go.Proofs.YtajljbmeaeeknaaGreat
open Go.RowKit Go.Maps
set_option linter.unusedVariables false
set_option linter.unusedSimpArgs false
def P0(c:Mac)(k:Int):Int:=if 32768<c.m.length∨c.f<0∨15<c.f∨k<0∨200000<k then 1 else if c.e=0 then 0 else 9
def V8(c:Mac)(k:Int):Mac×Int:=if P0 c k=0 then(N6 (L1 k.toNat c).1,(L1 k.toNat c).2)else(K3,0)
theorem N8{c:Mac}(h:c.e≠0)(k:Nat):L1 k c=(c,0):=by cases k<;>simp[L1,h]
theorem y6{c:Mac}{k:Nat}(h:c.e=0)(h3:(L3 c).e≠3):L1 (k+1) c=((L1 k (L3 c)).1,(L1 k (L3 c)).2+1):=by simp[L1,h,h3]
theorem j4{c:Mac}{k:Nat}(h:c.e=0)(h3:(L3 c).e=3):L1 (k+1) c=(L3 c,0):=by simp[L1,h,h3]
theorem A0n{n z o:Int}(h:o=0∨o=1∨o=8∨o=9):0≤rsF n z o∧rsF n z o≤15:=by unfold rsF;split<;>split<;>omega
def Ef(c c':Mac):Prop:=(0≤c'.f∧c'.f≤15)∧(c'.e=c.e∨c'.e=1∨c'.e=2)
theorem E8{p:Prop}[Decidable p]{a b:Option Mac}{c:Mac}(ha:∀c',a=some c'→Ef c c')(hb:∀c',b=some c'→Ef c c'):∀c',(if p then a else b)=some c'→Ef c c':=by
 intro c' h
 split at h
 ·exact ha c' h
 ·exact hb c' h
theorem E4{c d:Mac}(h:Ef c d):∀c',some d=some c'→Ef c c':=fun c' e=>by cases e;exact h
theorem U3{c:Mac}:∀c',(none:Option Mac)=some c'→Ef c c':=fun c' e=>by cases e
theorem B2g(o:Int)(d s:Nat)(i z:Int)(c:Mac)(hf:0≤c.f∧c.f≤15):∀c',exO o d s i z c=some c'→Ef c c':=by
 have k0:∀n:Int,(0:Int)≤rsF n z 0∧rsF n z 0≤15:=fun n=>A0n (.inl rfl)
 have ka:∀n a b:Int,0≤rsF n z (adO a b z)∧rsF n z (adO a b z)≤15:=fun n a b=>A0n (by unfold adO;split<;>split<;>simp)
 have ks:∀n a b:Int,0≤rsF n z (suO a b z)∧rsF n z (suO a b z)≤15:=fun n a b=>A0n (by unfold suO;split<;>split<;>simp)
 have E0:∀f:Int,0≤f∧f≤15→∀r a m,Ef c ⟨r,f,a,m,c.e⟩:=fun f h r a m=>⟨h,.inl rfl⟩
 have kb:∀n:Int,∀b:Bool,0≤rsF n z (if b=true then 1 else 0)∧rsF n z (if b=true then 1 else 0)≤15:=fun n b=>A0n (by cases b<;>simp)
 have kc:Ef c c:=⟨hf,.inl rfl⟩
 unfold exO ldM stM f8 x9;refine E8 (E4 ⟨hf,.inl rfl⟩) ?_;refine E8 (E4 ⟨hf,.inl rfl⟩) ?_;refine E8 (E8 (E4 ⟨hf,.inl rfl⟩) U3) ?_;refine E8 (E8 (E4 ⟨hf,.inl rfl⟩) U3) ?_;refine E8 (E8 (E4 ⟨hf,.inl rfl⟩) U3) ?_;refine E8 (E8 (E4 ⟨hf,.inl rfl⟩) U3) ?_;refine E8 (E8 (E4 ⟨hf,.inl rfl⟩) U3) ?_;refine E8 (E4 ⟨ka _ _ _,.inl rfl⟩) ?_;refine E8 (E4 ⟨k0 _,.inl rfl⟩) ?_;refine E8 (E4 ⟨k0 _,.inl rfl⟩) ?_;refine E8 (E4 ⟨ks _ _ _,.inl rfl⟩) ?_;refine E8 (E4 ⟨k0 _,.inl rfl⟩) ?_;refine E8 (E4 ⟨ks _ _ _,.inl rfl⟩) ?_;refine E8 (E4 ⟨k0 _,.inl rfl⟩) ?_;refine E8 (E4 ⟨ka _ _ _,.inl rfl⟩) ?_;refine E8 (E4 ⟨k0 _,.inl rfl⟩) ?_;refine E8 (E4 ⟨k0 _,.inl rfl⟩) ?_;refine E8 (E4 ⟨ks _ _ _,.inl rfl⟩) ?_;refine E8 (E4 ⟨k0 _,.inl rfl⟩) ?_;refine E8 (E4 ⟨ks _ _ _,.inl rfl⟩) ?_;refine E8 (E4 ⟨by unfold A7K A6W;simp only;split<;>omega,.inl rfl⟩) ?_;refine E8 (E4 (by unfold A7J shM;split;exact kc;exact⟨kb _ _,.inl rfl⟩)) ?_;refine E8 (E4 (by unfold A7I shM;split;exact kc;exact⟨kb _ _,.inl rfl⟩)) ?_;refine E8 (E4 (by unfold A7H shM;split;exact kc;exact⟨kb _ _,.inl rfl⟩)) ?_;refine E8 (E4 ⟨hf,.inl rfl⟩) ?_;refine E8 (E4 ⟨ks _ _ _,.inl rfl⟩) ?_;refine E8 (E8 U3 (E4 ⟨hf,.inl rfl⟩)) ?_;refine E8 (E8 U3 (E4 ⟨hf,.inl rfl⟩)) ?_;refine E8 (E4 ⟨hf,.inl rfl⟩) ?_;refine E8 (E4 ⟨hf,.inl rfl⟩) ?_;refine E8 (E4 ⟨hf,.inl rfl⟩) ?_;refine E8 (E4 (by unfold A7G;split;exact⟨hf,.inl rfl⟩;exact kc)) ?_;refine E8 (E4 kc) ?_;refine E8 (E4 kc) ?_;refine E8 (E4 ⟨hf,.inr (.inl rfl)⟩) ?_;refine E8 (E4 ⟨hf,.inr (.inr rfl)⟩) ?_;refine E8 (E4 kc) ?_;exact E4 kc
theorem A5y{c:Mac}(hf:0≤c.f∧c.f≤15)(he:c.e=0):(0≤(L3 c).f∧(L3 c).f≤15)∧(L3 c).e≠4:=by
 have e3:(3:Int)≠4:=by decide
 unfold L3
 split
 ·unfold A1e
  split
  ·exact⟨hf,e3⟩
  ·rename_i c' h
   obtain⟨h1,h2⟩:=B2g _ _ _ _ _ c hf c' h
   split
   ·rename_i h0
    exact⟨h1,by show c'.e≠4;omega⟩
   ·exact⟨h1,by omega⟩
 ·exact⟨hf,e3⟩
theorem A0m:∀(k:Nat) (c:Mac),(0≤c.f∧c.f≤15)→c.e≠4→(0≤(L1 k c).1.f∧(L1 k c).1.f≤15)∧(L1 k c).1.e≠4
 |0,c,hf,he=>⟨hf,he⟩
 |k+1,c,hf,he=>by
  unfold L1
  split
  ·rename_i h0
   obtain⟨h1,h2⟩:=A5y hf h0
   split
   ·exact⟨h1,h2⟩
   ·exact A0m k (L3 c) h1 h2
  ·exact⟨hf,he⟩
theorem A1o(n m:Nat):∀c:Mac,L1 (n+m) c=((L1 m (L1 n c).1).1,(L1 n c).2+(L1 m (L1 n c).1).2):=by
 induction n with
 |zero=>intro c;simp[L1]
 |succ n ih=>
  intro c;rw[show n+1+m=(n+m)+1 by omega];by_cases h:c.e=0
  ·by_cases h3:(L3 c).e=3
   ·rw[j4 h h3,j4 h h3,N8 (by rw[h3];decide)];rfl
   ·rw[y6 h h3,y6 h h3,ih (L3 c)];simp only[Prod.mk.injEq,true_and];omega
  ·rw[N8 h,N8 h,N8 h];rfl
theorem A4v{l:List Int}{d:Nat}{n:Int}(h:0<d):(l.set d n).getD 0 0=l.getD 0 0:=by
 cases l with
 |nil=>rfl
 |cons a t=>cases d with
  |zero=>exact absurd h (Nat.lt_irrefl _)
  |succ d=>rfl
theorem B0j{c:Mac}{d:Nat}{n:Int}(h:c.r.getD 0 0=0):(R0 c d n).r.getD 0 0=0:=by
 unfold R0;simp only
 split
 ·rw[A4v (by assumption)];exact h
 ·exact h
theorem A5x{c c':Mac}(h0:c.r.getD 0 0=0)(he:c.e=0)(h:G4 c=some c'):c'.r.getD 0 0=0∧c'.e≠4:=by
 have e0:c.e≠4:=by omega
 have key:∀x,∀c',exV x c=some c'→c'.r.getD 0 0=0∧c'.e≠4:=by
  intro x c' h;unfold exV at h;simp only at h
  repeat' split at h
  all_goals(first|(cases h;done)|(cases h;first|exact⟨B0j h0,e0⟩|exact⟨h0,e0⟩|exact⟨h0,by show(1:Int)≠4;decide⟩|exact⟨h0,by show(2:Int)≠4;decide⟩))
 unfold G4 at h
 repeat' split at h
 all_goals(first|(cases h;done)|exact key _ _ h)
theorem A0l:∀(k:Nat) (c:Mac),c.r.getD 0 0=0→c.e≠4→(L0 k c).1.r.getD 0 0=0∧(L0 k c).1.e≠4
 |0,c,h0,he=>⟨h0,he⟩
 |k+1,c,h0,he=>by
  by_cases h:c.e=0
  ·cases h1:G4 c with
   |none=>rw[V0 h h1];exact⟨h0,by show(3:Int)≠4;decide⟩
   |some c'=>rw[i9 h h1];obtain⟨h2,h3⟩:=A5x h0 h h1;exact A0l k c' h2 h3
  ·rw[N7 h];exact⟨h0,he⟩
structure PieceLaw(F:Mac→Int→Mac×Int)(E:Mac→Int→Int):Prop where
 cnt:∀(c:Mac) (n:Nat),0≤(F c n).2∧(F c n).2≤n
 err:∀(c:Mac) (n m:Nat),n≤500→m≤500→E c (n+m:Nat)=E c n
 fin:∀(c:Mac) (n m:Nat),n≤500→m≤500→E c n=0→(F c n).1.e≠4→F c (n+m:Nat)=F c n
 go:∀(c:Mac) (n m:Nat),n≤500→m≤500→E c n=0→(F c n).1.e=4→(F c n).1.m.length≤32768→E {(F c n).1 with e:=0} m=0∧(F {(F c n).1 with e:=0} m).1=(F c (n+m:Nat)).1∧(F c n).2+(F {(F c n).1 with e:=0} m).2=(F c (n+m:Nat)).2
theorem A1M{c:Mac}(h:c.e≠4):((N6 c).e=4↔c.e=0):=by
 unfold N6
 split
 ·rename_i h0;exact⟨fun _=>h0,fun _=>rfl⟩
 ·rename_i h0;exact⟨fun h1=>absurd h1 h,fun h1=>absurd h1 h0⟩
theorem A1N{c:Mac}(h:c.e=0):({N6 c with e:=0}:Mac)=c:=by
 unfold N6;rw[if_pos h];cases c;simp only at h;subst h;rfl
theorem A3Y(c:Mac)(k:Nat)(hk:k≤1000):P7 c k=P7 c 0:=by
 unfold P7;by_cases h:32768<c.m.length∨c.r.getD 0 0≠0∨(k:Int)<0∨200000<(k:Int)
 ·rw[if_pos h,if_pos (by omega)]
 ·have h2:¬(32768<c.m.length∨c.r.getD 0 0≠0∨(0:Int)<0∨200000<(0:Int)):=by omega
  rw[if_neg h,if_neg h2]
theorem A3J(c:Mac)(k:Nat)(hk:k≤1000):P0 c k=P0 c 0:=by
 unfold P0;by_cases h:32768<c.m.length∨c.f<0∨15<c.f∨(k:Int)<0∨200000<(k:Int)
 ·rw[if_pos h,if_pos (by omega)]
 ·have h2:¬(32768<c.m.length∨c.f<0∨15<c.f∨(0:Int)<0∨200000<(0:Int)):=by omega
  rw[if_neg h,if_neg h2]
theorem A7L{c:Mac}{k:Int}(h:P7 c k=0):c.r.getD 0 0=0:=by
 unfold P7 at h
 split at h
 ·exact absurd h (by decide)
 ·omega
theorem A6d{c:Mac}{k:Int}(h:P0 c k=0):c.m.length≤32768∧(0≤c.f∧c.f≤15)∧c.e=0:=by
 unfold P0 at h
 split at h
 ·exact absurd h (by decide)
 ·split at h
  ·omega
  ·exact absurd h (by decide)
theorem A1l:∀(k:Nat) (c:Mac),(L0 k c).2≤k
 |0,c=>Nat.le_refl _
 |k+1,c=>by
  by_cases h:c.e=0
  ·cases h1:G4 c with
   |none=>rw[V0 h h1];exact Nat.zero_le _
   |some c'=>rw[i9 h h1];have:=A1l k c';exact Nat.succ_le_succ this
  ·rw[N7 h];exact Nat.zero_le _
theorem A1n:∀(k:Nat) (c:Mac),(L1 k c).2≤k
 |0,c=>Nat.le_refl _
 |k+1,c=>by
  by_cases h:c.e=0
  ·by_cases h3:(L3 c).e=3
   ·rw[j4 h h3];exact Nat.zero_le _
   ·rw[y6 h h3];have:=A1n k (L3 c);exact Nat.succ_le_succ this
  ·rw[N8 h];exact Nat.zero_le _
theorem B1g:PieceLaw s5 P7:=by
 have hR:∀(c:Mac) (k:Nat),P7 c k=0→s5 c k=(N6 (L0 k c).1,((L0 k c).2:Int)):=fun c k h=>by unfold s5;rw[if_pos h];rfl
 have hE:∀(c:Mac) (n m:Nat),n≤500→m≤500→P7 c n=0→P7 c (n+m:Nat)=0:=fun c n m hn hm h=>by rw[A3Y c _ (by omega)]at h⊢;exact h
 refine⟨fun c n=>by unfold s5;split;exact⟨by simp,by have:=A1l (n:Int).toNat c;simp at this⊢;omega⟩;exact⟨Int.le_refl _,by simp⟩,fun c n m hn hm=>by rw[A3Y c _ (by omega),A3Y c _ (by omega)],fun c n m hn hm he h4=>?_,fun c n m hn hm he h4 hl=>?_⟩
 ·have h0:=r7 he;have hf:=A0l n c (A7L he) (by omega);rw[hR c n he]at h4⊢;rw[hR c _ (hE c n m hn hm he),A1m];have h5:(L0 n c).1.e≠0:=fun h=>h4 ((A1M hf.2).2 h)
  rw[N7 h5];rfl
 ·have h0:=r7 he;have hf:=A0l n c (A7L he) (by omega);rw[hR c n he]at h4 hl⊢;have h5:(L0 n c).1.e=0:=(A1M hf.2).1 h4;have h6:P7 {N6 (L0 n c).1 with e:=0} m=0:=by
   have hl2:(L0 n c).1.m.length≤32768:=by
    have e:(N6 (L0 n c).1).m=(L0 n c).1.m:=by unfold N6;split<;>rfl
    rw[←e];exact hl
   rw[A1N h5];unfold P7;rw[if_neg (by rw[hf.1];omega),if_neg (by rw[h5];decide)]
  refine⟨h6,?_⟩;rw[hR _ _ h6,hR c _ (hE c n m hn hm he),A1m,A1N h5];exact⟨rfl,by simp⟩
theorem B1h:PieceLaw V8 P0:=by
 have hR:∀(c:Mac) (k:Nat),P0 c k=0→V8 c k=(N6 (L1 k c).1,((L1 k c).2:Int)):=fun c k h=>by unfold V8;rw[if_pos h];rfl
 have hE:∀(c:Mac) (n m:Nat),n≤500→m≤500→P0 c n=0→P0 c (n+m:Nat)=0:=fun c n m hn hm h=>by rw[A3J c _ (by omega)]at h⊢;exact h
 refine⟨fun c n=>by unfold V8;split;exact⟨by simp,by have:=A1n (n:Int).toNat c;simp at this⊢;omega⟩;exact⟨Int.le_refl _,by simp⟩,fun c n m hn hm=>by rw[A3J c _ (by omega),A3J c _ (by omega)],fun c n m hn hm he h4=>?_,fun c n m hn hm he h4 hl=>?_⟩
 ·have h0:=A6d he;have hf:=A0m n c h0.2.1 (by omega);rw[hR c n he]at h4⊢;rw[hR c _ (hE c n m hn hm he),A1o];have h5:(L1 n c).1.e≠0:=fun h=>h4 ((A1M hf.2).2 h)
  rw[N8 h5];rfl
 ·have h0:=A6d he;have hf:=A0m n c h0.2.1 (by omega);rw[hR c n he]at h4 hl⊢;have h5:(L1 n c).1.e=0:=(A1M hf.2).1 h4;have h6:P0 {N6 (L1 n c).1 with e:=0} m=0:=by
   have hl2:(L1 n c).1.m.length≤32768:=by
    have e:(N6 (L1 n c).1).m=(L1 n c).1.m:=by unfold N6;split<;>rfl
    rw[←e];exact hl
   rw[A1N h5];unfold P0;rw[if_neg (by omega),if_pos h5]
  refine⟨h6,?_⟩;rw[hR _ _ h6,hR c _ (hE c n m hn hm he),A1o,A1N h5];exact⟨rfl,by simp⟩
theorem B3c{p:Prop}(h:p:=by
 refine bodyPost_ret (v:=.tuple #[.agg (B4 (F c k).1 mv').toArray,.int .i64 (F c k).2,.int .i64 (E c k)]) (A3C rfl rfl rfl rfl HK2.out underlying48 rfl HSZ.out) rfl ?_;exact⟨⟨mv',rfl,(H2.out.setCells hlt1 _).low (by omega),H3.out,H4.out⟩,F8 (by omega) _ 0 _ (HB1.out.trans (HB2.out.mono (by omega)))⟩
 ):p:=h
def A5d(F:Mac→Int→Mac×Int)(E:Mac→Int→Int)(c:Mac)(k:Int)(w:World)(e:Ending)(w':World):Prop:=
 (∃mv',e= .returned (.tuple #[.agg (B4 (F c k).1 mv').toArray,.int .i64 (F c k).2,.int .i64 (E c k)])∧MemO w.heap.size w' mv' (F c k).1.m∧MOk (F c k).1∧(F c k).1.m.length≤32768)∧Below w.heap.size w w'
theorem A5B{F:Mac→Int→Mac×Int}{E:Mac→Int→Int}(HR:∀(c:Mac) (mv:Value) (k:Int) (w:World),MOk c→Ints .u8 w mv c.m→Calls prog 52 #[.agg (B4 c mv).toArray,.int .i64 k] w (A5d F E c k w))
  (c:Mac) (mv:Value) (k:Int) (w:World) (ho:MOk c) (hm:Ints .u8 w mv c.m):Calls prog 67 #[.int .i64 0,.agg (B4 c mv).toArray,.int .i64 k] w (A5d F E c k w):=by
 have hlen:=B8 ho.rl mv;obtain⟨k0,k1,hb1,hs1⟩:=X5 w (B4 c mv) (B4 K3 (.slice none 0 0)) 48 (by omega);rw[←V4]at k0 k1 hb1 hs1;have hv1:=hm.stays hb1;obtain⟨W1,hW1⟩:∃W,((w.alloc (.cells (B4 c mv).toArray 48)).alloc (.cells #[.int .u32 0,.int .u32 0,.int .u32 0,.int .u32 0,.int .u32 0,.int .u32 0,.int .u32 0,.int .u32 0,.int .u32 0,.int .u32 0,.int .u32 0,.int .u32 0,.int .u32 0,.int .u32 0,.int .u32 0,.int .u32 0,.int .u32 0,.int .u32 0,.int .u32 0,.int .u32 0,.int .u32 0,.int .u32 0,.int .u32 0,.int .u32 0,.int .u32 0,.int .u32 0,.int .u32 0,.int .u32 0,.int .u32 0,.int .u32 0,.int .u32 0,.int .u32 0,.int .i64 0,.int .u32 0,.slice none 0 0,.int .i64 0] 48))=W:=⟨_,rfl⟩
 rw[hW1]at k0 k1 hb1 hs1 hv1;have HBG:=hid (HR c mv k W1 ho hv1);have HB1:=hid hb1;have HK1:=hid k1;have hszm:=O6 ho.rl mv;have hrg:=k0.range;have hlt1:w.heap.size+1<W1.heap.size:=by omega
 obtain⟨cs,hcs⟩:∃cs,B4 c mv=cs:=⟨_,rfl⟩
 rw[hcs]at hrg hszm HBG⊢;simp only[hcs]at hW1;clear k0 k1 hb1 hs1 hv1 ho hm hlen hcs;go_enter func67,ntmps67;go_upto_region 3 with fail
 clear hW1;go_wp2_with(first|(refine wpList_load_mid rfl _ _ rfl w.heap.size 0 rfl cs _ hrg underlying48 rfl hszm ?_)|((with_reducible refine(HBG.out).mono ?_);rintro e w2 ⟨⟨mv',rfl,h2,h3,h4⟩,hb2⟩;have K1:=HK1.out.below (by rw[B8 rfl];decide) hb2;obtain⟨⟨z1,z2⟩,z3,hth,hk2⟩:=J7 h3.rl h2.isSlice K1 (B8 rfl _);have H2:=hid h2;have H3:=hid h3;have H4:=hid h4;have HK2:=hid hk2;have HSZ:=hid z1;have HB2:=hid hb2;clear h2 h3 h4 hk2 K1 hb2)|(refine wpList_store_mid rfl _ _ _ rfl (w.heap.size+1) 0 _ rfl rfl hth z2 z3 ?_))
 exact B3c
theorem A5A{F:Mac→Int→Mac×Int}{E:Mac→Int→Int}(HR:∀(c:Mac) (mv:Value) (k:Int) (w:World),MOk c→Ints .u8 w mv c.m→Calls prog 53 #[.agg (B4 c mv).toArray,.int .i64 k] w (A5d F E c k w))
  (c:Mac) (mv:Value) (k:Int) (w:World) (ho:MOk c) (hm:Ints .u8 w mv c.m):Calls prog 67 #[.int .i64 1,.agg (B4 c mv).toArray,.int .i64 k] w (A5d F E c k w):=by
 have hlen:=B8 ho.rl mv;obtain⟨k0,k1,hb1,hs1⟩:=X5 w (B4 c mv) (B4 K3 (.slice none 0 0)) 48 (by omega);rw[←V4]at k0 k1 hb1 hs1;have hv1:=hm.stays hb1;obtain⟨W1,hW1⟩:∃W,((w.alloc (.cells (B4 c mv).toArray 48)).alloc (.cells #[.int .u32 0,.int .u32 0,.int .u32 0,.int .u32 0,.int .u32 0,.int .u32 0,.int .u32 0,.int .u32 0,.int .u32 0,.int .u32 0,.int .u32 0,.int .u32 0,.int .u32 0,.int .u32 0,.int .u32 0,.int .u32 0,.int .u32 0,.int .u32 0,.int .u32 0,.int .u32 0,.int .u32 0,.int .u32 0,.int .u32 0,.int .u32 0,.int .u32 0,.int .u32 0,.int .u32 0,.int .u32 0,.int .u32 0,.int .u32 0,.int .u32 0,.int .u32 0,.int .i64 0,.int .u32 0,.slice none 0 0,.int .i64 0] 48))=W:=⟨_,rfl⟩
 rw[hW1]at k0 k1 hb1 hs1 hv1;have HBG:=hid (HR c mv k W1 ho hv1);have HB1:=hid hb1;have HK1:=hid k1;have hszm:=O6 ho.rl mv;have hrg:=k0.range;have hlt1:w.heap.size+1<W1.heap.size:=by omega
 obtain⟨cs,hcs⟩:∃cs,B4 c mv=cs:=⟨_,rfl⟩
 rw[hcs]at hrg hszm HBG⊢;simp only[hcs]at hW1;clear k0 k1 hb1 hs1 hv1 ho hm hlen hcs;go_enter func67,ntmps67;go_upto_region 2 with fail
 clear hW1;go_wp2_with(first|(refine wpList_load_mid rfl _ _ rfl w.heap.size 0 rfl cs _ hrg underlying48 rfl hszm ?_)|((with_reducible refine(HBG.out).mono ?_);rintro e w2 ⟨⟨mv',rfl,h2,h3,h4⟩,hb2⟩;have K1:=HK1.out.below (by rw[B8 rfl];decide) hb2;obtain⟨⟨z1,z2⟩,z3,hth,hk2⟩:=J7 h3.rl h2.isSlice K1 (B8 rfl _);have H2:=hid h2;have H3:=hid h3;have H4:=hid h4;have HK2:=hid hk2;have HSZ:=hid z1;have HB2:=hid hb2;clear h2 h3 h4 hk2 K1 hb2)|(refine wpList_store_mid rfl _ _ _ rfl (w.heap.size+1) 0 _ rfl rfl hth z2 z3 ?_))
 exact B3c
end Go.Proofs.YtajljbmeaeeknaaGreat
namespace Go.Proofs.YtajljbmeaeeknaaGreat
open Go.RowKit
set_option linter.unusedVariables false
set_option linter.unusedSimpArgs false
structure MM(base M:Nat)(mv:Value)(c:Mac)(w:World):Prop where
 m:CellsAt w M (B4 c mv)
 v:(c.m=[]∧mv= .slice none 0 0)∨∃D cap,mv= .slice (some ⟨D,0,none⟩) c.m.length cap∧c.m.length≤cap∧cap≤9223372036854775807∧D≠M∧base≤D∧OInts .u8 w D c.m
 bm:base≤M
 rl:c.r.length=32
 rb:∀k,0≤c.r.getD k 0∧c.r.getD k 0<4294967296
 ml:c.m.length≤32768
 mb:Byt c.m
 fb:0≤c.f∧c.f≤15
 ab:0≤c.a∧c.a<4294967296
section
variable {base T M : Nat} {mv : Value} {x : Ins} {z : Int} {fl : Bool} {c : Mac} {w w' : World}
theorem MM.own(h:MM base M mv c w)(k:Nat)(hk:mv.ownBlock=some k):base≤k∧k<w.heap.size:=by
 rcases h.v with⟨_,e⟩|⟨D,cap,e,_,_,_,h5,h6⟩
 ·rw[e]at hk;cases hk
 ·rw[e]at hk;have:D=k:=by injection hk
  subst this;exact⟨h5,h6.1⟩
theorem MM.ltM(h:MM base M mv c w):M<w.heap.size:=h.m.lt (by simp[B4,h.rl])
theorem MM.same(h:MM base M mv c w)(hb:Below w.heap.size w w'):MM base M mv c w':=
 ⟨h.m.block (hb.block M h.ltM),h.v.imp id (fun⟨D,cap,e,h1,h2,h3,h5,h6⟩=>⟨D,cap,e,h1,h2,h3,h5,h6.below hb⟩),h.bm,h.rl,h.rb,h.ml,h.mb,h.fb,h.ab⟩
theorem MM.toMSt(h:MM base M mv c w)(ht:CellsAt w T [.pointer (some ⟨M,0,none⟩),.int .i64 x.o,.int .i64 x.d,.int .i64 x.s,.int .i64 x.z,.int .i64 x.i,.int .i64 z,.bool fl])(h1:T≠M)(h2:mv.ownBlock≠some T)(h3:base≤T)(hz:z=16∨z=32):MSt base T M mv x z fl c w:=
 {t:=ht,m:=h.m,tm:=h1,bt:=h3,bm:=h.bm,rl:=h.rl,rb:=h.rb,ml:=h.ml,mb:=h.mb,fb:=h.fb,ab:=h.ab,zz:=hz,v:=by
   rcases h.v with he|⟨D,cap,e,a1,a2,a3,a5,a6⟩
   ·exact Or.inl he
   ·exact Or.inr ⟨D,cap,e,a1,a2,(fun hh=>h2 (by rw[e,←hh];rfl)),a3,a5,a6⟩}
theorem MSt.toMM(h:MSt base T M mv x z fl c w):MM base M mv c w:=
 {m:=h.m,bm:=h.bm,rl:=h.rl,rb:=h.rb,ml:=h.ml,mb:=h.mb,fb:=h.fb,ab:=h.ab,v:=by
   rcases h.v with he|⟨D,cap,e,a1,a2,a3,a4,a5,a6⟩
   ·exact Or.inl he
   ·exact Or.inr ⟨D,cap,e,a1,a2,a4,a5,a6⟩}
theorem MM.drewN(h:MM base M mv c w)(n:Nat):MM base M mv c (w.drewN n):=⟨h.m,h.v,h.bm,h.rl,h.rb,h.ml,h.mb,h.fb,h.ab⟩
theorem MM.ints(h:MM base M mv c w):Ints .u8 w mv c.m:=by
 rcases h.v with⟨e,e2⟩|⟨D,cap,e,h1,h2,h3,h5,h6⟩
 ·rw[e,e2];exact⟨none,0,by simp,by simp,by decide,fun _=>rfl,fun i hi=>absurd hi (by simp)⟩
 ·rw[e];have:=h.ml;exact⟨some ⟨D,0,none⟩,cap,rfl,h1,⟨by omega,by omega⟩,(fun hh=>by cases hh),fun i hi=>⟨D,0,rfl,h6.1,by simpa using h6.cell hi⟩⟩
end
theorem MM.reg0{base M:Nat}{mv:Value}{c:Mac}{w:World}(h:MM base M mv c w):w.cell? ⟨M,0,none⟩=some (.int .u32 (c.r.getD 0 0))∧w.frozen? ⟨M,0,none⟩=false:=by
 refine h.m 0 _ ?_;have h0:0<c.r.length:=by rw[h.rl];decide
 unfold B4;rw[List.getElem?_append_left (by simpa using h0),List.getElem?_map,List.getElem?_eq_getElem h0,List.getD_eq_getElem?_getD,List.getElem?_eq_getElem h0];rfl
theorem A1w{base M:Nat}{mv:Value}{c:Mac}{w:World}(h:MM base M mv c w):∀v∈B4 c mv,v.oneCell'=true:=by
 obtain⟨va,vc,hmv,_,_⟩:=h.ints.shape;intro v hv;unfold B4 at hv;rcases List.mem_append.1 hv with hv|hv
 ·obtain⟨y,_,rfl⟩:=List.mem_map.1 hv;rfl
 ·simp only[List.mem_cons,List.not_mem_nil,or_false]at hv;rcases hv with rfl|rfl|rfl|rfl
  ·rfl
  ·rfl
  ·rw[hmv];rfl
  ·rfl
theorem s7(w:World)(old:Array Value)(cs:List Value)(tM:TypeId):
  let W:=((w.alloc (.cells old tM)).setRow w.heap.size cs.toArray).alloc (.cells #[.int .i64 0,.int .i64 0,.int .i64 0,.int .i64 0,.int .i64 0] 89)
  Below w.heap.size w W∧CellsAt W w.heap.size cs∧Box5 W (w.heap.size+1) 0 0 0 0 0∧W.heap.size=w.heap.size+2:=by
 intro W;have h1:=setRow_heap (w.alloc (.cells old tM)) w.heap.size old cs.toArray tM (0,0) (b8 w old tM);have hs:((w.alloc (.cells old tM)).setRow w.heap.size cs.toArray).heap.size=w.heap.size+1:=by simp
 refine⟨((below_setRow ((Below.refl w.heap.size w).alloc (Nat.le_refl _) _) (Nat.le_refl _) _).alloc (by omega) _),U5 (t:=tM) ?_,?_,?_⟩
 ·rw[←h1];exact Below.heap_alloc _ _ _ (by omega)
 ·have:=Box5.new ((w.alloc (.cells old tM)).setRow w.heap.size cs.toArray) 0 0 0 0 0;rw[hs]at this;exact this
 ·show(World.alloc _ _).heap.size=_
  simp
section
variable {base M : Nat} {mv : Value} {c : Mac} {w : World}
theorem MM.tailAt(h:MM base M mv c w)(k:Nat)(v:Value)(hv:([.int .i64 c.f,.int .u32 c.a,mv,.int .i64 c.e]:List Value)[k]? =some v):w.cell? ⟨M,32+k,none⟩=some v∧w.frozen? ⟨M,32+k,none⟩=false:=by
 refine h.m (32+k) v ?_;unfold B4;rw[List.getElem?_append_right (by simp[h.rl])];simp only[List.length_map,h.rl,Nat.add_sub_cancel_left];exact hv
theorem MM.setTail(h:MM base M mv c w)(k:Nat)(u:Value)(c':Mac)(hk:k<4)(e:([.int .i64 c.f,.int .u32 c.a,mv,.int .i64 c.e]:List Value).set k u=[.int .i64 c'.f,.int .u32 c'.a,mv,.int .i64 c'.e])(hr:c'.r=c.r)(hm:c'.m=c.m)(hf:0≤c'.f∧c'.f≤15)(ha:0≤c'.a∧c'.a<4294967296):MM base M mv c' (w.setCell ⟨M,32+k,none⟩ u):=by
 have:=h.m.set (k:=32+k) (by simp[B4,h.rl];omega) u;have e2:(B4 c mv).set (32+k) u=B4 c' mv:=by
  unfold B4;rw[List.set_append_right _ _ (by simp[h.rl]),hr];simp only[List.length_map,h.rl,Nat.add_sub_cancel_left];rw[e]
 rw[e2]at this;refine⟨this,?_,h.bm,by rw[hr];exact h.rl,by rw[hr];exact h.rb,by rw[hm];exact h.ml,by rw[hm];exact h.mb,hf,ha⟩;rw[hm];refine h.v.imp id (fun⟨D,cap,e,h1,h2,h3,h5,h6⟩=>⟨D,cap,e,h1,h2,h3,h5,by simpa[World.setCell]using h6.1,fun i hi=>⟨?_,by rw[World.frozen?_setCell];exact h6.free hi⟩⟩);rw[World.cell?_setCell_other _ _ _ _ (by intro hh;cases hh;exact h3 rfl)];exact h6.cell hi
theorem MM.setE(h:MM base M mv c w)(n:Int):MM base M mv {c with e:=n} (w.setCell ⟨M,35,none⟩ (.int .i64 n)):=h.setTail 3 _ {c with e:=n} (by decide) rfl rfl rfl h.fb h.ab
theorem MM.setA(h:MM base M mv c w){n:Int}(h0:0≤n)(h1:n<4294967296):MM base M mv {c with a:=n} (w.setCell ⟨M,33,none⟩ (.int .u32 n)):=h.setTail 1 _ {c with a:=n} (by decide) rfl rfl rfl h.fb ⟨h0,h1⟩
end
end Go.Proofs.YtajljbmeaeeknaaGreat
