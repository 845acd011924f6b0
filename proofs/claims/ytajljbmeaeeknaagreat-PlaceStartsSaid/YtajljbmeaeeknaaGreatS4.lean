/- -/
import Derived.DeepKeys5
import Derived.Deep.AppendLies
import Derived.Deep.QuietTactic
import Derived.Deep.Onto
import Derived.Maps.AppendAt
import Derived.Laws.AppendOwnNone
import Derived.Deep.Cut
import Derived.Deep.CutRange
import Derived.Test.YtajljbmeaeeknaaGreatS1
import Derived.Test.YtajljbmeaeeknaaGreatS2
import Derived.Test.YtajljbmeaeeknaaGreatS3
open Go.Proofs.Tryz
open Go.Lib (hid)
set_option maxRecDepth 100000
namespace Go.Proofs.YtajljbmeaeeknaaGreat
open Go.RowKit
set_option linter.unusedVariables false
set_option linter.unusedSimpArgs false
theorem i6(h:Bool)(r:Int):(decide (r<0)=true∧rgR h r=false)∨(decide (r<0)=false∧decide (31<r)=true∧rgR h r=false)∨(decide (r<0)=false∧decide (31<r)=false∧h=true∧rgR h r=true)
  ∨(decide (r<0)=false∧decide (31<r)=false∧h=false∧(r==0)=false∧rgR h r=false)∨(decide (r<0)=false∧decide (31<r)=false∧h=false∧(r==0)=true∧rgR h r=true):=by
 unfold rgR;by_cases h1:r<0
 ·exact .inl ⟨by simp[h1],by simp;omega⟩
 by_cases h2:31<r
 ·exact .inr (.inl ⟨by simp;omega,by simp[h2],by simp;omega⟩)
 cases h
 ·by_cases h3:r=0
  ·subst h3;exact .inr (.inr (.inr (.inr ⟨by decide,by decide,rfl,by decide,by decide⟩)))
  ·exact .inr (.inr (.inr (.inl ⟨by simp;omega,by simp;omega,rfl,by simp[h3],by simp[h3]⟩)))
 ·exact .inr (.inr (.inl ⟨by simp;omega,by simp;omega,rfl,by simp;omega⟩))
def erR(x:Rv):Int:=if okR x=true then 0 else 1
set_option maxHeartbeats 4000000 in
theorem i4(x:Rv)(w:World):Calls prog 54 #[RvV x] w fun e w'=>e= .returned (.int .i64 (erR x))∧Below w.heap.size w w':=by
 obtain⟨o,d,a,b,i⟩:=x;obtain⟨E,hE⟩:∃E,erR ⟨o,d,a,b,i⟩=E:=⟨_,rfl⟩
 obtain⟨f,hf⟩:∃f,fmR o=f:=⟨_,rfl⟩
 have hfb:0≤f∧f≤10:=by
  by_cases h0:o<0∨40<o
  ·rw[←hf];unfold fmR;rw[if_pos h0];omega
  ·have:=G7 o (by omega) (by omega);omega
 obtain⟨p,hp⟩:∃p,hdR f=p:=⟨_,rfl⟩
 obtain⟨q,hq⟩:∃p,haR f=p:=⟨_,rfl⟩
 obtain⟨r,hr⟩:∃p,hbR f=p:=⟨_,rfl⟩
 have K:Hid ((rgR p d=false→1=E)∧(rgR q a=false→1=E)∧(rgR r b=false→1=E)∧(f=10→1=E)∧(fiR f i=false→1=E)∧(rgR p d=true→rgR q a=true→rgR r b=true→f≠10→fiR f i=true→0=E)):=by
  refine hid ?_;rw[←hE,←hp,←hq,←hr,←hf];unfold erR okR;refine⟨fun h=>?_,fun h=>?_,fun h=>?_,fun h=>?_,fun h=>?_,fun h1 h2 h3 h4 h5=>?_⟩
  ·simp[h]
  ·simp[h]
  ·simp[h]
  ·simp[h]
  ·simp[h]
  ·simp[h1,h2,h3,h4,h5]
 rw[hE];have C1:Hid (∀w,Calls prog 84 #[.int .i64 o] w fun e w'=>e= .returned (.int .i64 f)∧w=w'):=hid (fun w=>by rw[←hf];exact U4 o w);have C2:Hid (∀w,∃s,Calls prog 85 #[.int .i64 f] w fun e w'=>e= .returned (.agg #[.bool p,.bool q,.bool r,.bool s])∧Below w.heap.size w w'):=hid (fun w=>⟨_,by have:=A4A f hfb w;unfold hsV hsL at this;rw[hp,hq,hr]at this;simpa using this⟩);have C3:Hid (f≠10→∀w,Calls prog 86 #[.int .i64 f,.int .i64 i] w fun e w'=>e= .returned (.bool (fiR f i))∧w=w'):=hid (fun h w=>A5J f i (by omega) w);obtain⟨u,hu⟩:∃u,fiR f i=u:=⟨_,rfl⟩
 rw[hu]at C3 K;clear hf hp hq hr hu hfb hE;show Calls prog 54 #[.agg #[.int .i64 o,.int .i64 d,.int .i64 a,.int .i64 b,.int .i64 i]] w _
 obtain⟨W1,hW1⟩:∃W,w.alloc (.cells #[.int .i64 o,.int .i64 d,.int .i64 a,.int .i64 b,.int .i64 i] 75)=W:=⟨_,rfl⟩
 have BB:Hid (Below w.heap.size w W1):=by rw[←hW1];exact(Below.refl _ _).alloc (Nat.le_refl _) _
 have hs:w.heap.size<W1.heap.size:=by rw[←hW1];simp
 have z0:W1.cell? ⟨w.heap.size,0,none⟩=some (.int .i64 o):=by rw[←hW1];simp[go_sem]
 have z1:W1.cell? ⟨w.heap.size,1,none⟩=some (.int .i64 d):=by rw[←hW1];simp[go_sem]
 have z2:W1.cell? ⟨w.heap.size,2,none⟩=some (.int .i64 a):=by rw[←hW1];simp[go_sem]
 have z3:W1.cell? ⟨w.heap.size,3,none⟩=some (.int .i64 b):=by rw[←hW1];simp[go_sem]
 have z4:W1.cell? ⟨w.heap.size,4,none⟩=some (.int .i64 i):=by rw[←hW1];simp[go_sem]
 have Z1:=hid z1;have Z2:=hid z2;have Z3:=hid z3;have Z4:=hid z4;clear z1 z2 z3 z4;obtain⟨s,C2'⟩:=C2.out W1;have C2:=hid C2';clear C2';go_enter func54,ntmps54;go_wp2_with(first|(go_at_call 84;(with_reducible refine(C1.out _).mono ?_);rintro e w' ⟨rfl,rfl⟩)|(go_at_call 85;(with_reducible refine C2.out.mono ?_);rintro e w2 ⟨rfl,hb2⟩;have x1:=A7 hb2 hs Z1.out;have x2:=A7 hb2 hs Z2.out;have x3:=A7 hb2 hs Z3.out;have x4:=A7 hb2 hs Z4.out;have hl2:w.heap.size<w2.heap.size:=Nat.lt_of_lt_of_le hs hb2.size;have hne:¬w.heap.size=w2.heap.size:=(by omega);have HB2:=hid (B7 BB.out (by omega) hb2);clear hb2 z0))
 generalize hW4:(w2.alloc (.cells #[.bool p,.bool q,.bool r,.bool s] 165)).alloc (.cells #[.int .i64 d,.int .i64 a,.int .i64 b] 3)=W4;have hB4:Below w2.heap.size w2 W4:=by rw[←hW4];exact((Below.refl _ _).alloc (Nat.le_refl _) _).alloc (by simp) _
 have HW4:Hid (Below w.heap.size w W4):=B7 HB2.out (by omega) hB4;have y4:=A7 hB4 hl2 x4;have h0:W4.cell? ⟨w2.heap.size,0,none⟩=some (.bool p):=by rw[←hW4];simp[go_sem]
 have h1:W4.cell? ⟨w2.heap.size,1,none⟩=some (.bool q):=by rw[←hW4];simp[go_sem]
 have h2:W4.cell? ⟨w2.heap.size,2,none⟩=some (.bool r):=by rw[←hW4];simp[go_sem]
 have i0:W4.cell? ⟨w2.heap.size+1,0,none⟩=some (.int .i64 d):=by rw[←hW4];simp[go_sem]
 have i1:W4.cell? ⟨w2.heap.size+1,1,none⟩=some (.int .i64 a):=by rw[←hW4];simp[go_sem]
 have i2:W4.cell? ⟨w2.heap.size+1,2,none⟩=some (.int .i64 b):=by rw[←hW4];simp[go_sem]
 clear hW4 hB4 x1 x2 x3 x4 Z1 Z2 Z3 Z4 hW1 C1 C2
 go_loopw[5,6,20] (fun _ _ i wr=>∃j:Int,(j=0∨(j=1∧rgR p d=true)∨(j=2∧rgR p d=true∧rgR q a=true)∨(j=3∧rgR p d=true∧rgR q a=true∧rgR r b=true))∧i= .int .i64 j∧W4=wr) (fun _ _ i _=>3-(intOf i).toNat)
 case atStart=>exact⟨0,.inl rfl,rfl,rfl⟩
 case round=>
  obtain⟨j,hj,rfl,rfl⟩:=hrel;rcases hj with rfl|⟨rfl,g0⟩|⟨rfl,g0,g1⟩|⟨rfl,g0,g1,g2⟩
  ·rcases i6 p d with⟨t1,e⟩|⟨t1,t2,e⟩|⟨t1,t2,rfl,e⟩|⟨t1,t2,rfl,t3,e⟩|⟨t1,t2,rfl,t3,e⟩<;>(have HE:=hid e;clear e)
   ·go_wp2_with fail
    go_ret;exact⟨E9 (K.out.1 HE.out),HW4.out⟩
   ·go_wp2_with fail
    go_ret;exact⟨E9 (K.out.1 HE.out),HW4.out⟩
   ·go_wp2_with fail
    go_roundw
    case rel=>exact⟨1,.inr (.inl ⟨rfl,HE.out⟩),rfl,trivial⟩
    case measure=>simp[intOf]
   ·go_wp2_with fail
    go_ret;exact⟨E9 (K.out.1 HE.out),HW4.out⟩
   ·go_wp2_with fail
    go_roundw
    case rel=>exact⟨1,.inr (.inl ⟨rfl,HE.out⟩),rfl,trivial⟩
    case measure=>simp[intOf]
  ·have G0:=hid g0;clear g0;rcases i6 q a with⟨t1,e⟩|⟨t1,t2,e⟩|⟨t1,t2,rfl,e⟩|⟨t1,t2,rfl,t3,e⟩|⟨t1,t2,rfl,t3,e⟩<;>(have HE:=hid e;clear e)
   ·go_wp2_with fail
    go_ret;exact⟨E9 (K.out.2.1 HE.out),HW4.out⟩
   ·go_wp2_with fail
    go_ret;exact⟨E9 (K.out.2.1 HE.out),HW4.out⟩
   ·go_wp2_with fail
    go_roundw
    case rel=>exact⟨2,.inr (.inr (.inl ⟨rfl,G0.out,HE.out⟩)),rfl,trivial⟩
    case measure=>simp[intOf]
   ·go_wp2_with fail
    go_ret;exact⟨E9 (K.out.2.1 HE.out),HW4.out⟩
   ·go_wp2_with fail
    go_roundw
    case rel=>exact⟨2,.inr (.inr (.inl ⟨rfl,G0.out,HE.out⟩)),rfl,trivial⟩
    case measure=>simp[intOf]
  ·have G0:=hid g0;have G1:=hid g1;clear g0 g1;rcases i6 r b with⟨t1,e⟩|⟨t1,t2,e⟩|⟨t1,t2,rfl,e⟩|⟨t1,t2,rfl,t3,e⟩|⟨t1,t2,rfl,t3,e⟩<;>(have HE:=hid e;clear e)
   ·go_wp2_with fail
    go_ret;exact⟨E9 (K.out.2.2.1 HE.out),HW4.out⟩
   ·go_wp2_with fail
    go_ret;exact⟨E9 (K.out.2.2.1 HE.out),HW4.out⟩
   ·go_wp2_with fail
    go_roundw
    case rel=>exact⟨3,.inr (.inr (.inr ⟨rfl,G0.out,G1.out,HE.out⟩)),rfl,trivial⟩
    case measure=>simp[intOf]
   ·go_wp2_with fail
    go_ret;exact⟨E9 (K.out.2.2.1 HE.out),HW4.out⟩
   ·go_wp2_with fail
    go_roundw
    case rel=>exact⟨3,.inr (.inr (.inr ⟨rfl,G0.out,G1.out,HE.out⟩)),rfl,trivial⟩
    case measure=>simp[intOf]
  ·have G:=hid (And.intro g0 (And.intro g1 g2));clear g0 g1 g2;by_cases h10:f=10
   ·have t:(f==10)=true:=by simp[h10]
    have HT:=hid h10;clear h10;go_wp2_with fail
    go_ret;exact⟨E9 (K.out.2.2.2.1 HT.out),HW4.out⟩
   ·have t:(f==10)=false:=by simp[h10]
    have HT:=hid h10;have C3':=hid (C3.out h10);clear h10;cases u
    ·go_wp2_with(go_at_call 86;(with_reducible refine(C3'.out _).mono ?_);rintro e w' ⟨rfl,rfl⟩)
     go_ret;exact⟨E9 (K.out.2.2.2.2.1 (by trivial)),HW4.out⟩
    ·go_wp2_with(go_at_call 86;(with_reducible refine(C3'.out _).mono ?_);rintro e w' ⟨rfl,rfl⟩)
     go_ret;exact⟨E9 (K.out.2.2.2.2.2 G.out.1 G.out.2.1 G.out.2.2 HT.out (by trivial)),HW4.out⟩
def ecR(x:Rv):Int:=if okR x=true then G9 x else 0
theorem x6(x:Rv)(w:World):Calls prog 21 #[RvV x] w fun e w'=>e= .returned (.tuple #[.int .u32 (ecR x),.int .i64 (erR x)])∧Below w.heap.size w w':=by
 have C1:=hid (i4 x);have C2:=hid (A2J x);obtain⟨o,d,a,b,i⟩:=x;obtain⟨E,hE⟩:∃E,erR ⟨o,d,a,b,i⟩=E:=⟨_,rfl⟩
 have HK:Hid ((okR ⟨o,d,a,b,i⟩=true∧E=0)∨(okR ⟨o,d,a,b,i⟩=false∧E=1)):=by
  rw[←hE];unfold erR;refine hid ?_;cases okR ⟨o,d,a,b,i⟩<;>simp
 rw[hE]at C1⊢;clear hE;obtain⟨V,hV⟩:∃V,ecR ⟨o,d,a,b,i⟩=V:=⟨_,rfl⟩
 have HV:=hid hV;rw[hV];clear hV;unfold RvV at C1 C2⊢;obtain⟨W1,hW1⟩:∃W,w.alloc (.cells #[.int .i64 o,.int .i64 d,.int .i64 a,.int .i64 b,.int .i64 i] 75)=W:=⟨_,rfl⟩
 have BB:Hid (Below w.heap.size w W1):=by rw[←hW1];exact(Below.refl _ _).alloc (Nat.le_refl _) _
 have hs:w.heap.size<W1.heap.size:=by rw[←hW1];simp
 have z0:W1.cell? ⟨w.heap.size,0,none⟩=some (.int .i64 o):=by rw[←hW1];simp[go_sem]
 have z1:W1.cell? ⟨w.heap.size,1,none⟩=some (.int .i64 d):=by rw[←hW1];simp[go_sem]
 have z2:W1.cell? ⟨w.heap.size,2,none⟩=some (.int .i64 a):=by rw[←hW1];simp[go_sem]
 have z3:W1.cell? ⟨w.heap.size,3,none⟩=some (.int .i64 b):=by rw[←hW1];simp[go_sem]
 have z4:W1.cell? ⟨w.heap.size,4,none⟩=some (.int .i64 i):=by rw[←hW1];simp[go_sem]
 go_enter func21,ntmps21;rcases HK.out with⟨hk,rfl⟩|⟨hk,rfl⟩
 ·have C2:=hid (C2.out hk);have HV2:Hid (G9 ⟨o,d,a,b,i⟩=V):=hid (by rw[←HV.out];unfold ecR;rw[if_pos hk]);rw[HV2.out]at C2;clear hk HV HV2;go_wp2_with(first|(go_at_call 54;(with_reducible refine(C1.out _).mono ?_);rintro e wa ⟨rfl,hb⟩;have y0:=A7 hb hs z0;have y1:=A7 hb hs z1;have y2:=A7 hb hs z2;have y3:=A7 hb hs z3;have y4:=A7 hb hs z4;have HB:=hid (B7 BB.out (by omega) hb);have hl:w.heap.size≤wa.heap.size:=Nat.le_trans (Nat.le_of_lt hs) hb.size;clear hb z0 z1 z2 z3 z4)|(go_at_call 55;(with_reducible refine(C2.out _).mono ?_);rintro e wb ⟨rfl,hb⟩))
  go_ret2
  exact⟨rfl,B7 HB.out (by omega) hb⟩
 ·have HV2:Hid (0=V):=hid (by rw[←HV.out];unfold ecR;rw[if_neg (by simp[hk])]);go_wp2_with(go_at_call 54;(with_reducible refine(C1.out _).mono ?_);rintro e wa ⟨rfl,hb⟩;have HB:=hid (B7 BB.out (by omega) hb);clear hb)
  go_ret2
  exact⟨by have e:=HV2.out;subst e;rfl,HB.out⟩
end Go.Proofs.YtajljbmeaeeknaaGreat
namespace Go.Proofs.YtajljbmeaeeknaaGreat
open Go.RowKit Go.Maps
set_option linter.unusedVariables false
set_option linter.unusedSimpArgs false
def k1(o:Int):Int:=cdR (fmR o)
def k2(o:Int):Int:=if fmR o=3∨fmR o=7 then 0 else thR o
def k3(o:Int):Int:=if fmR o=0∨fmR o=2 then svR o else 0
def fV(c t s:Int):Value:=.agg #[.int .u32 c,.int .u32 t,.int .u32 s]
def B0L(n:Nat):List (Value×Value):=(List.range n).map fun(k:Nat)=>(fV (k1 (k:Int)) (k2 (k:Int)) (k3 (k:Int)),.int .i64 (k:Int))
def DecIs(w:World)(r n:Nat):Prop:=MapIs prog 171 w r (B0L n)
def rv0:Rv:=⟨0,0,0,0,0⟩
def rvC(x:Rv):List Value:=[.int .i64 x.o,.int .i64 x.d,.int .i64 x.a,.int .i64 x.b,.int .i64 x.i]
theorem Cls.five{w:World}{b:Nat}{v0 v1 v2 v3 v4:Value}(h:Cls w b [v0,v1,v2,v3,v4]):(w.cell? ⟨b,0,none⟩=some v0∧w.cell? ⟨b,1,none⟩=some v1∧w.cell? ⟨b,2,none⟩=some v2∧w.cell? ⟨b,3,none⟩=some v3∧w.cell? ⟨b,4,none⟩=some v4)∧
  (w.frozen? ⟨b,0,none⟩=false∧w.frozen? ⟨b,1,none⟩=false∧w.frozen? ⟨b,2,none⟩=false∧w.frozen? ⟨b,3,none⟩=false∧w.frozen? ⟨b,4,none⟩=false):=
 ⟨⟨h.at 0 _ rfl,h.at 1 _ rfl,h.at 2 _ rfl,h.at 3 _ rfl,h.at 4 _ rfl⟩,h.at' 0 _ rfl,h.at' 1 _ rfl,h.at' 2 _ rfl,h.at' 3 _ rfl,h.at' 4 _ rfl⟩
structure DecW(w:World)(X A:Nat)(cs bs:List Value)(wr:World):Prop where
 r0:Cls wr w.heap.size (rvC rv0)
 xc:Cls wr X cs
 ac:Cls wr A bs
 sc:Cls wr (A+1) [.pointer (some ⟨X,1,none⟩),.pointer (some ⟨X,2,none⟩),.pointer (some ⟨X,3,none⟩)]
 bl:Below w.heap.size w wr
 n1:w.heap.size<X
 n2:X<A
 n3:A+1<wr.heap.size
theorem DecW.below{w wr wk:World}{X A:Nat}{cs bs:List Value}(h:DecW w X A cs bs wr)(hb:Below wr.heap.size wr wk):DecW w X A cs bs wk:=by
 have h1:=h.n1;have h2:=h.n2;have h3:=h.n3;exact⟨h.r0.below (by omega) hb,h.xc.below (by omega) hb,h.ac.below (by omega) hb,h.sc.below h.n3 hb,h.bl.trans (hb.mono (by omega)),h.n1,h.n2,Nat.lt_of_lt_of_le h.n3 hb.size⟩
theorem DecW.set{w wr:World}{X A:Nat}{cs bs:List Value}(h:DecW w X A cs bs wr){k:Nat}(hk:k<cs.length)(v:Value):DecW w X A (cs.set k v) bs (wr.setCell ⟨X,k,none⟩ v):=by
 have h1:=h.n1;have h2:=h.n2;have h3:=h.n3;exact⟨h.r0.other (by omega) v,h.xc.set hk v,h.ac.other (by omega) v,h.sc.other (by omega) v,A9 h.bl (by omega) _ _,h.n1,h.n2,by rw[World.size_setCell];exact h.n3⟩
theorem P5{w w':World}{base:Nat}{e:TypeId}{z:Nat}{v:Value}{n:Nat}{xs:List Value}(h:w.ownsRow base e z v n xs)(hb:∀g,v.ownBlock=some g→g<w.heap.size→w'.heap[g]? =w.heap[g]?):w'.ownsRow base e z v n xs:=by
 obtain⟨h0,⟨e,h1⟩|⟨g,cap,cur,e,hb',hg,h1,h2,h3,h4⟩⟩:=h
 ·exact⟨h0,Or.inl ⟨e,h1⟩⟩
 ·have hlt:g<w.heap.size:=by
   rcases Nat.lt_or_ge g w.heap.size with h|h
   ·exact h
   ·rw[Array.getElem?_eq_none h]at hg;cases hg
  exact⟨h0,Or.inr ⟨g,cap,cur,e,hb',by rw[hb g (by rw[e];rfl) hlt];exact hg,h1,h2,h3,h4⟩⟩
theorem H5{w:World}{base:Nat}{e:TypeId}{z:Nat}{v:Value}{n:Nat}{xs:List Value}(h:w.ownsRow base e z v n xs)(g:Nat)(hg:v.ownBlock=some g):base≤g∧g<w.heap.size:=by
 obtain⟨h0,⟨e,h1⟩|⟨g',cap,cur,e,hb',hg',h1,h2,h3,h4⟩⟩:=h
 ·rw[e]at hg;cases hg
 ·rw[e]at hg;injection hg with hg
  subst hg;refine⟨hb',?_⟩;show g'<_
  rcases Nat.lt_or_ge g' w.heap.size with h|h
  ·exact h
  ·rw[Array.getElem?_eq_none h]at hg';cases hg'
theorem z6{w w':World}{r:Option Nat}(h:w.drew.grownBy w' r):w.grownBy w' r:=⟨h.os,h.tape,h.output,h.size,h.block⟩
def RowG{α:Type}(C:α→List Value)(w:World)(base:Nat)(e:TypeId)(z:Nat)(v:Value)(xs:List α):Prop:=w.ownsRow base e z v xs.length (xs.flatMap C)
theorem j8{α:Type}[Inhabited α]{C:α→List Value}{z:Nat}(hC:∀x,(C x).length=z):∀(xs:List α) (i j:Nat),i<xs.length→j<z→(xs.flatMap C)[i*z+j]? =(C (xs.getD i default))[j]?
 |[],i,j,h,_=>absurd h (Nat.not_lt_zero _)
 |x::r,0,j,_,hj=>by
  rw[List.flatMap_cons,List.getElem?_append_left (by rw[hC];omega)];simp
 |x::r,i+1,j,h,hj=>by
  rw[List.flatMap_cons,List.getElem?_append_right (by rw[hC,Nat.add_mul];omega)];have e:(i+1)*z+j-(C x).length=i*z+j:=by rw[hC,Nat.add_mul];omega
  rw[e,j8 hC r i j (by simpa using h) hj];simp
theorem RowG.slc{α:Type}[Inhabited α]{C:α→List Value}{w:World}{base:Nat}{e:TypeId}{z:Nat}{v:Value}{xs:List α}(h:RowG C w base e z v xs)(hC:∀x,(C x).length=z)(hz:0<z)(hl:xs.length≤100000):Slc w v xs.length z fun i b o=>∀j,j<z→w.cell? ⟨b,o+j,none⟩=(C (xs.getD i default))[j]? :=by
 obtain⟨h0,⟨e,h1⟩|⟨g,cap,cur,e,hb',hg,h1,h2,h3,h4⟩⟩:=h
 ·exact⟨none,0,by rw[e,h1],by omega,⟨by omega,by omega⟩,fun _=>rfl,fun i hi=>absurd hi (by omega)⟩
 ·have hlt:g<w.heap.size:=by
   rcases Nat.lt_or_ge g w.heap.size with h|h
   ·exact h
   ·rw[Array.getElem?_eq_none h]at hg;cases hg
  refine⟨some ⟨g,0,none⟩,cap,e,h1,⟨by omega,by unfold maxLen at h2;omega⟩,(fun hh=>by cases hh),fun i hi=>⟨g,0,rfl,hlt,?_⟩⟩;rw[Nat.zero_add];intro j hj;have hij:i*z+j<xs.length*z:=by
   have:(i+1)*z≤xs.length*z:=Nat.mul_le_mul_right z hi;rw[Nat.add_mul]at this;omega
  have e1:w.cell? ⟨g,i*z+j,none⟩=cur.toList[i*z+j]? :=by simp[World.cell?,hg]
  have e2:(cur.toList.take (xs.length*z))[i*z+j]? =cur.toList[i*z+j]? :=by rw[List.getElem?_take,if_pos hij]
  rw[e1,←e2,h4];exact j8 hC xs i j hi hj
theorem RowG.nil{α:Type}(C:α→List Value)(w:World)(base:Nat)(e:TypeId)(z:Nat):RowG C w base e z (.slice none 0 0) []:=World.ownsRow_nil w base e z
theorem RowG.snoc{α:Type}{C:α→List Value}{w:World}{base:Nat}{e:TypeId}{z:Nat}{v:Value}{xs:List α}{x:α}(h:w.ownsRow base e z v (xs.length+1) (xs.flatMap C++C x)):RowG C w base e z v (xs++[x]):=by
 unfold RowG;rw[List.length_append,List.flatMap_append];simpa using h
def w4(l:List Int)(k:Nat):Int:=l.getD k 0+l.getD (k+1) 0*256+l.getD (k+2) 0*65536+l.getD (k+3) 0*16777216
theorem Y7(b o j:Nat):(⟨b,o,none⟩:Addr).add j=⟨b,o+j,none⟩:=by by_cases hj:j=0<;>simp[Addr.add,hj]
theorem A0q:(prog.info? 5).map (fun i=>(i.zero,i.size,i.bytes))=some (some (.int .u8 0),1,1):=by kernel_rfl
theorem A3t{w:World}{ops:Array Oper}{rest:List Oper}{o:Oper}{a:Act}{Q:Exit→Act→World→Prop}(hgd:o.guard=none)(s x:Operand)
  (ho:o.op= .call {callee:=.builtin .append,args:=#[s,x],argTypes:=#[28,28]}) (base:Nat) (v:Value) (xs:List Int) (hs:a.eval s=v) (hown:RowI w base 5 .u8 v xs)
  (g m c:Nat) (ys:List Int) (hm:ys.length=m) (hx:a.eval x= .slice (some ⟨g,0,none⟩) m c) (hy:∀j,j<m→w.cell? ⟨g,j,none⟩=some (.int .u8 (ys.getD j 0))) (hl:xs.length+m≤100000) (hbase:base≤w.heap.size)
  (h:∀v' w',RowI w' base 5 .u8 v' (xs++ys)→Below base w w'→w.grownBy w' v.ownBlock→wpList prog ops Q rest (a.put o.dst v') w'):wpList prog ops Q (o::rest) a w:=by
 obtain⟨i0,hi0,hz0,hz1,hz2⟩:=info_parts A0q;refine wpList_append_own (P:=prog) w hgd s x _ ho base 5 i0 (.int .u8 0) 1 1 underlying28 hi0 hz0 hz1 hz2 rfl (by decide) v xs.length _ hs hown ⟨g,0,none⟩ m c (ys.map (Value.int .u8)) hx (by simp[hm]) (fun j u hj=>?_) (fun u hu=>?_) ?_ ?_ hbase ?_
 ·have hjl:j<ys.length:=by
   rcases Nat.lt_or_ge j ys.length with h|h
   ·exact h
   ·rw[List.getElem?_eq_none (by simpa using h)]at hj;cases hj
  rw[List.getElem?_map,List.getElem?_eq_getElem hjl]at hj;cases hj;rw[Y7,Nat.zero_add,hy j (by omega),List.getD_eq_getElem?_getD,List.getElem?_eq_getElem hjl];rfl
 ·obtain⟨y,_,rfl⟩:=List.mem_map.1 hu;rfl
 ·unfold maxLen;omega
 ·omega
 ·intro v' w' hown' hg _;exact h v' w' (RowI.app hown' (by rw[hm]) rfl) ((Below.refl _ _).grown hg hbase (R5 hown)) hg
theorem RowI.base{w:World}{base base':Nat}{e:TypeId}{k:IntKind}{v:Value}{xs:List Int}(h:RowI w base e k v xs)(hb:base'≤base):RowI w base' e k v xs:=World.ownsRow.mono h hb
def by4(e:Int):List Int:=[e%256,e / 256%256,e / 65536%256,e / 16777216%256]
def H0(xs:List Rv):List Int:=xs.flatMap fun x=>by4 (G9 x)
def Q4(xs:List Rv):Prop:=∀x∈xs,okR x=true
theorem A3m(xs:List Rv)(x:Rv):H0 (xs++[x])=H0 xs++by4 (G9 x):=by unfold H0;simp
theorem k8(xs:List Rv):(H0 xs).length=4*xs.length:=by
 induction xs with
 |nil=>rfl
 |cons x r ih=>unfold H0 at ih⊢;simp only[List.flatMap_cons,List.length_append,ih,List.length_cons];unfold by4;simp;omega
theorem A8c{xs:List Rv}{j:Nat}(h:j<xs.length):xs.take (j+1)=xs.take j++[xs.getD j default]:=by
 rw[List.take_add_one,List.getElem?_eq_getElem h,List.getD_eq_getElem?_getD,List.getElem?_eq_getElem h];rfl
def A9r(w:World)(b o:Nat)(x:Rv):Prop:=
 w.cell? ⟨b,o,none⟩=some (.int .i64 x.o)∧w.cell? ⟨b,o+1,none⟩=some (.int .i64 x.d)∧w.cell? ⟨b,o+2,none⟩=some (.int .i64 x.a)∧w.cell? ⟨b,o+3,none⟩=some (.int .i64 x.b)∧w.cell? ⟨b,o+4,none⟩=some (.int .i64 x.i)
def Rvs(w:World)(v:Value)(xs:List Rv):Prop:=Slc w v xs.length 5 fun i b o=>A9r w b o (xs.getD i default)
theorem Rvs.stays{w w':World}{v:Value}{xs:List Rv}(h:Rvs w v xs)(hb:Below w.heap.size w w'):Rvs w' v xs:=
 Slc.stays h hb fun _ _ _ hlt hc=>⟨A7 hb hlt hc.1,A7 hb hlt hc.2.1,A7 hb hlt hc.2.2.1,A7 hb hlt hc.2.2.2.1,A7 hb hlt hc.2.2.2.2⟩
theorem Rvs.shape{w:World}{v:Value}{xs:List Rv}(h:Rvs w v xs):∃a c,v= .slice a xs.length c∧xs.length≤c∧xs.length≤140737488351232:=by
 obtain⟨a,c,e,h1,h2,_⟩:=h;exact⟨a,c,e,h1,h2.1⟩
theorem Rvs.at{w:World}{v:Value}{xs:List Rv}(h:Rvs w v xs){j:Nat}(hj:j<xs.length):∃b q c,v= .slice (some ⟨b,q,none⟩) xs.length c∧xs.length≤c∧b<w.heap.size∧A9r w b (q+j*5) (xs.getD j default):=by
 obtain⟨a,c,e,h1,h2,h3,h4⟩:=h;obtain⟨b,q,rfl,h5,h6⟩:=h4 j hj;exact⟨b,q,c,e,h1,h5,h6⟩
def ByP(xs:List Rv)(w:World)(e:Ending)(w':World):Prop:=
 Below w.heap.size w w'∧∃u E,e= .returned (.tuple #[u,.int .i64 E])∧((Q4 xs∧E=0∧RowI w' w.heap.size 5 .u8 u (H0 xs))∨(¬Q4 xs∧E=1))
set_option maxHeartbeats 2000000 in
theorem A0c(xs:List Rv)(v:Value)(w:World)(hv:Rvs w v xs)(hlen:xs.length≤10000):Calls prog 24 #[v] w (ByP xs w):=by
 have HV:=hid hv;obtain⟨va,vc,rfl,hl1,hl2⟩:=hv.shape;clear hv;go_enter func24,ntmps24;go_wp2_with fail
 go_loopw[4,11] (fun u i wr=>∃j:Nat,j≤xs.length∧i= .int .i64 j∧RowI wr w.heap.size 5 .u8 u (H0 (xs.take j))∧Hid (∀k,k<j→okR (xs.getD k default)=true)∧Since w wr) (fun _ i _=>xs.length-(intOf i).toNat)
 case atStart=>exact⟨0,Nat.zero_le _,rfl,RowI.nil _ _ _ _,hid (fun k h=>absurd h (Nat.not_lt_zero _)),Since.refl _⟩
 case round=>
  obtain⟨j,hj,rfl,hrow,hok,hs⟩:=hrel;by_cases hlt:j<xs.length
  ·obtain⟨b,q,c,e',hc,hb,x0,x1,x2,x3,x4⟩:=(HV.out.stays hs).at hlt;cases e';have CE:=hid (x6 (xs.getD j default));have HEQ:Hid (okR (xs.getD j default)=true→H0 (xs.take j)++by4 (G9 (xs.getD j default))=H0 (xs.take (j+1))):=hid (fun _=>by rw[A8c hlt,A3m]);have HBL:Hid ((H0 (xs.take j)).length≤40000):=hid (by rw[k8,List.length_take];omega);obtain⟨x,hx⟩:∃x,xs.getD j default=x:=⟨_,rfl⟩
   have hbd:okR x=true→0≤G9 x∧G9 x<4294967296:=fun h=>A8F h
   obtain⟨E,hE⟩:∃E,G9 x=E:=⟨_,rfl⟩
   have hec:okR x=true→ecR x=E:=fun h=>by unfold ecR;rw[if_pos h];exact hE
   have her:erR x=if okR x=true then 0 else 1:=rfl
   rw[hx]at x0 x1 x2 x3 x4 CE HEQ;rw[hE]at HEQ hbd;have HX:=hid hx;have HS:=hid hs;have HROW:=hid hrow;have HSZ:=hs.size;clear hx hs hrow hE;generalize H0 (xs.take j)=bs at*
   obtain⟨xo,xd,xa,xb,xi⟩:=x;have CE2:Hid (∀wk,Calls prog 21 #[.agg #[.int .i64 xo,.int .i64 xd,.int .i64 xa,.int .i64 xb,.int .i64 xi]] wk fun e w'=>e= .returned (.tuple #[.int .u32 (ecR ⟨xo,xd,xa,xb,xi⟩),.int .i64 (erR ⟨xo,xd,xa,xb,xi⟩)])∧Below wk.heap.size wk w'):=CE;clear CE;have hlt':(j:Int)<xs.length:=Int.ofNat_lt.2 hlt;have hwj:IntKind.i64.wrap ((j:Int)+1)=((j+1:Nat):Int):=by rw[IntWalk.i64_left];exact IntWalk.wrap64_in _ (by omega)
   cases ho:okR ⟨xo,xd,xa,xb,xi⟩
   ·rw[show erR ⟨xo,xd,xa,xb,xi⟩=1 by rw[her,ho];rfl]at CE2;have HNO:Hid (¬Q4 xs):=hid (fun h=>by
     have h1:=h (xs.getD j default) (by rw[List.getD_eq_getElem?_getD,List.getElem?_eq_getElem hlt];exact List.getElem_mem hlt);rw[HX.out,ho]at h1;cases h1)
    clear hec her hbd HEQ ho hlt;generalize ecR ⟨xo,xd,xa,xb,xi⟩=ec at*
    go_wp2_with(go_at_call 21;(with_reducible refine(CE2.out _).mono ?_);rintro e w1 ⟨rfl,hb1⟩)
    go_ret2
    exact⟨A8 HS.out (A8 ((Below.refl _ _).alloc (Nat.le_refl _) _) hb1),_,_,rfl,.inr ⟨HNO.out,rfl⟩⟩
   ·rw[show erR ⟨xo,xd,xa,xb,xi⟩=0 by rw[her,ho];rfl,hec ho]at CE2;have HEQ2:=hid (HEQ.out ho);obtain⟨hb0,hb1⟩:=hbd ho;have HO:Hid (∀k,k<j+1→okR (xs.getD k default)=true):=hid (fun k hk=>by
     by_cases e:k=j
     ·rw[e,HX.out];exact ho
     ·exact hok.out k (by omega))
    clear hec her hbd HEQ ho;go_wp2_with(first|(go_at_call 21;(with_reducible refine(CE2.out _).mono ?_);rintro e w1 ⟨rfl,hb1'⟩;have HB1:=hid (A8 ((Below.refl wr.heap.size wr).alloc (Nat.le_refl _) _) hb1');clear hb1';have hw1:=HB1.out.size)|(at_builtin;refine A3t rfl _ _ rfl w.heap.size _ _ rfl ((HROW.out.below HB1.out).below ((Below.refl _ _).alloc (Nat.le_refl _) _)) w1.heap.size 4 4 (by4 E) rfl rfl (fun k hk=>?_) (by have:=HBL.out;omega) (by simp;omega) (fun v' w4 hr4 hb4 hg4=>?_)))
    ·rcases(show k=0∨k=1∨k=2∨k=3 by omega)with rfl|rfl|rfl|rfl<;>simp[go_sem,by4]
     omega
    ·have HR4:=hid hr4;have HB4:=hid hb4;clear hr4 hb4 hg4;go_wp2_with fail
     go_roundw
     case rel=>exact⟨j+1,by omega,rfl,(by rw[←HEQ2.out];exact HR4.out),HO,(A8 (A8 HS.out HB1.out) ((Below.refl _ _).alloc (Nat.le_refl _) _)).trans HB4.out⟩
     case measure=>simp[intOf];omega
  ·obtain rfl:j=xs.length:=by omega
   have HROW:Hid (RowI wr w.heap.size 5 .u8 _ (H0 xs)):=hid (by rw[List.take_length]at hrow;exact hrow);have HS:=hid hs;clear hrow hs;go_wp2_with fail
   go_ret2
   refine⟨HS.out,_,_,rfl,.inl ⟨fun x hx=>?_,rfl,HROW.out⟩⟩;obtain⟨k,hk,rfl⟩:=List.mem_iff_getElem.1 hx;have:=hok.out k hk;rw[List.getD_eq_getElem?_getD,List.getElem?_eq_getElem hk]at this;exact this
theorem A6R:(prog.info? 75).map (fun i=>(i.zero,i.size,i.bytes))=some (some (.agg #[.int .i64 0,.int .i64 0,.int .i64 0,.int .i64 0,.int .i64 0]),5,40):=by kernel_rfl
def RowR(w:World)(base:Nat)(v:Value)(xs:List Rv):Prop:=RowG rvC w base 75 5 v xs
theorem RowR.below{w w':World}{base:Nat}{v:Value}{xs:List Rv}(h:RowR w base v xs)(hb:Below w.heap.size w w'):RowR w' base v xs:=P5 h fun g _ hl=>hb.block g hl
theorem RowR.snoc{w:World}{base:Nat}{v:Value}{xs:List Rv}(x:Rv)(h:w.ownsRow base 75 5 v (xs.length+1) (xs.flatMap rvC++rvC x)):RowR w base v (xs++[x]):=RowG.snoc h
theorem RowR.shape{w:World}{base:Nat}{v:Value}{xs:List Rv}(h:RowR w base v xs):∃a c,v= .slice a xs.length c:=by
 obtain⟨h0,⟨e,h1⟩|⟨g,cap,cur,e,h⟩⟩:=h
 ·exact⟨none,0,by rw[e,h1]⟩
 ·exact⟨_,_,e⟩
theorem RowR.rvs{w:World}{base:Nat}{v:Value}{xs:List Rv}(h:RowR w base v xs)(hl:xs.length≤100000):Rvs w v xs:=by
 have h1:=RowG.slc h (fun _=>rfl) (by decide) hl;obtain⟨a,c,e,h1,h2,h3,h4⟩:=h1;refine⟨a,c,e,h1,h2,h3,fun i hi=>?_⟩;obtain⟨b,o,e2,h5,h6⟩:=h4 i hi;refine⟨b,o,e2,h5,?_⟩;exact⟨h6 0 (by decide),h6 1 (by decide),h6 2 (by decide),h6 3 (by decide),h6 4 (by decide)⟩
theorem DecIs.below{w w':World}{r n:Nat}(h:DecIs w r n)(hb:Below w.heap.size w w'):DecIs w' r n:=MapIs.below h hb
def LiH(l:List Int)(done:List Rv):Prop:=4*done.length≤l.length∧∀j,j<done.length→A9o (w4 l (4*j))=some (done.getD j default)
theorem LiH.step{l:List Int}{done:List Rv}{x:Rv}(h:LiH l done)(hk:4*done.length+4≤l.length)(hd:A9o (w4 l (4*done.length))=some x):LiH l (done++[x]):=by
 refine⟨by simp;omega,fun j hj=>?_⟩;rw[List.length_append,List.length_singleton]at hj;rw[List.getD_eq_getElem?_getD];rcases Nat.lt_or_ge j done.length with h1|h1
 ·rw[List.getElem?_append_left h1,←List.getD_eq_getElem?_getD];exact h.2 j h1
 ·obtain rfl:j=done.length:=by omega
  rw[hd];simp
def rg0(r:Int):Int:=if r<0 then 0 else 5+r
theorem E0(r:Int)(hr:r≤1000)(w:World):Calls prog 273 #[.agg #[],.int .i64 r] w fun e w'=>e= .returned (.int .i64 (rg0 r))∧Below w.heap.size w w':=by
 have B1:=hid ((Below.refl w.heap.size w).alloc (Nat.le_refl _) (.cells #[] 188));unfold rg0;by_cases h:r<0
 ·have d:decide (r<0)=true:=decide_eq_true h;rw[if_pos h];clear h;go_enter func273,ntmps273;go_wp2_with fail
  go_ret;exact⟨rfl,B1.out⟩
 ·have d:decide (r<0)=false:=decide_eq_false h;have hw:IntKind.i64.wrap (5+r)=5+r:=by rw[IntWalk.i64_left];exact IntWalk.wrap64_in _ (by omega)
  rw[if_neg h];go_enter func273,ntmps273;go_wp2_with fail
  go_ret;exact⟨rfl,B1.out⟩
theorem I5(xs:List Rv)(v:Value)(w:World)(hv:Rvs w v xs)(ha:Q4 xs)(hl:xs.length≤100):Calls prog 272 #[.agg #[],v] w fun e w'=>∃u,e= .returned u∧RowI w' w.heap.size 5 .u8 u (H0 xs)∧Below w.heap.size w w':=by
 have B1:=hid ((Below.refl w.heap.size w).alloc (Nat.le_refl _) (.cells #[] 188));have C1:=hid (A0c xs v (w.alloc (.cells #[] 188)) (hv.stays B1.out) (by omega));have HA:=hid ha;clear ha hv;go_enter func272,ntmps272;go_wp2_with((with_reducible refine C1.out.mono ?_);rintro e w2 ⟨hb2,u,E,rfl,h2⟩;obtain⟨-,rfl,hr2⟩:=h2.resolve_right (fun h=>h.1 HA.out);clear h2)
 go_ret;exact⟨_,rfl,World.ownsRow.mono hr2 (by simp),B7 B1.out (by simp) hb2⟩
def loR(n:Int):Int:=sgR (n%4096) 2048
def hiH(n:Int):Int:=(n-loR n)%4294967296 / 4096
theorem A6s(n:Int): -2048≤loR n∧loR n≤2047:=by unfold loR sgR;split<;>omega
theorem A6t(n:Int):0≤hiH n∧hiH n<1048576:=by unfold hiH;omega
theorem j7(n:Int)(h0:0≤n)(h1:n<4294967296)(w:World):Calls prog 276 #[.int .u32 n] w fun e w'=>e= .returned (.tuple #[.int .i64 (hiH n),.int .i64 (loR n)])∧w=w':=by
 have hl:wrap32 (n*1048576%4294967296) / 1048576=loR n:=by
  unfold loR sgR wrap32
  split<;>omega
 have hb:=A6s n;have hh:=A6t n;have hs:(n-loR n%4294967296)%4294967296 / 4096=hiH n:=by unfold hiH;omega
 go_enter func276,ntmps276;go_upto_region 2 with fail
 go_wp2_with fail
 refine bodyPost_ret (v:=.tuple #[.int .i64 (hiH n),.int .i64 (loR n)]) (by simp[results,results276,go_sem];rfl) rfl ⟨rfl,rfl⟩
def nb0(d n:Int):List Rv:=if hiH n=0 then[⟨15,d,0,0,loR n⟩]else[⟨24,d,0,0,hiH n⟩,⟨15,d,d,0,loR n⟩]
theorem L5{w:World}{xs:List Rv}(h:xs.length≤100):Rvs (w.alloc (.cells (xs.flatMap rvC).toArray 75)) (.slice (some ⟨w.heap.size,0,none⟩) xs.length xs.length) xs:=by
 have hk:∀(xs:List Rv) (i:Nat),i<xs.length→∀j,j<5→(xs.flatMap rvC)[i*5+j]? =(rvC (xs.getD i default))[j]? :=by
  intro xs
  induction xs with
  |nil=>intro i hi;exact absurd hi (Nat.not_lt_zero _)
  |cons x t ih=>
   intro i hi j hj;cases i with
   |zero=>rw[List.flatMap_cons,Nat.zero_mul,Nat.zero_add,List.getElem?_append_left (by simpa[rvC]using hj)];rfl
   |succ i=>
    rw[List.flatMap_cons,List.getElem?_append_right (by simp[rvC];omega),show(i+1)*5+j-(rvC x).length=i*5+j by simp[rvC];omega,ih i (by simpa using hi) j hj];rfl
 obtain⟨-,K⟩:=B9 w (xs.flatMap rvC) 75;refine⟨_,_,rfl,Nat.le_refl _,⟨by omega,by omega⟩,(fun e=>by cases e),fun i hi=>⟨w.heap.size,0,rfl,by simp,?_⟩⟩;have g:∀j v,(rvC (xs.getD i default))[j]? =some v→(w.alloc (.cells (xs.flatMap rvC).toArray 75)).cell? ⟨w.heap.size,0+i*5+j,none⟩=some v:=fun j v hv=>by
  have hj:j<5:=(List.getElem?_eq_some_iff.1 hv).1;rw[Nat.zero_add];exact(K (i*5+j) v (by rw[hk xs i hi j hj];exact hv)).1
 exact⟨g 0 _ rfl,g 1 _ rfl,g 2 _ rfl,g 3 _ rfl,g 4 _ rfl⟩
theorem A5x(d n:Int)(h0:0≤n)(h1:n<4294967296)(w:World):Calls prog 274 #[.agg #[],.int .i64 d,.int .u32 n] w fun e w'=>∃u,e= .returned u∧Rvs w' u (nb0 d n)∧Below w.heap.size w w':=by
 obtain⟨W1,hW1⟩:∃W,w.alloc (.cells #[] 188)=W:=⟨_,rfl⟩
 have BB:Hid (Since w W1):=by rw[←hW1];exact(Below.refl _ _).alloc (Nat.le_refl _) _
 have C1:=hid (j7 n h0 h1);unfold nb0;by_cases hz:hiH n=0
 ·rw[if_pos hz];have dz:(hiH n==0)=true:=by simpa using hz
  have R:=hid (L5 (w:=W1) (xs:=[⟨15,d,0,0,loR n⟩]) (by simp));generalize hiH n=hi at*
  generalize loR n=lo at*
  clear hz;go_enter func274,ntmps274;go_wp2_with(go_at_call 276;(with_reducible refine(C1.out _).mono ?_);rintro e w' ⟨rfl,rfl⟩)
  go_ret;exact⟨_,rfl,R.out,A8 BB.out ((Below.refl _ _).alloc (Nat.le_refl _) _)⟩
 ·rw[if_neg hz];have dz:(hiH n==0)=false:=by simpa using hz
  have R:=hid (L5 (w:=W1) (xs:=[⟨24,d,0,0,hiH n⟩,⟨15,d,d,0,loR n⟩]) (by simp));generalize hiH n=hi at*
  generalize loR n=lo at*
  clear hz;go_enter func274,ntmps274;go_wp2_with(go_at_call 276;(with_reducible refine(C1.out _).mono ?_);rintro e w' ⟨rfl,rfl⟩)
  go_ret;exact⟨_,rfl,R.out,A8 BB.out ((Below.refl _ _).alloc (Nat.le_refl _) _)⟩
theorem A4N{w:World}{xs:List Rv}{base:Nat}(hb:base≤w.heap.size)(h:xs.length≤100):RowR (w.alloc (.cells (xs.flatMap rvC).toArray 75)) base (.slice (some ⟨w.heap.size,0,none⟩) xs.length xs.length) xs:=by
 have hl:(xs.flatMap rvC).length=xs.length*5:=by
  induction xs with
  |nil=>rfl
  |cons x t ih=>rw[List.flatMap_cons,List.length_append,ih (by simp at h;omega),List.length_cons];simp[rvC];omega
 have:=World.ownsRow_lit (base:=base) (e:=75) (size:=5) w (xs.flatMap rvC).toArray xs.length hb (by unfold maxLen;omega) (by simpa using hl);exact this
theorem A4z:∃i:TypeInfo,prog.info? 75=some i∧i.zero=some (.agg #[.int .i64 0,.int .i64 0,.int .i64 0,.int .i64 0,.int .i64 0])∧i.size=5∧i.bytes=40:=by
 obtain⟨i,h1,h2,h3,h4⟩:=info_parts A6R;exact⟨i,h1,h2,h3,h4⟩
theorem Z0{ops:Array Oper}{o:Oper}{a:Act}{w:World}{K:Act→World→Prop}{Q:Exit→Act→World→Prop}{E:Prop}(hgd:o.guard=none)(s x:Operand)
  (ho:o.op= .call {callee:=.builtin .append,args:=#[s,x],argTypes:=#[66,66]}) (base:Nat) (v:Value) (xs:List Rv) (hs:a.eval s=v) (hown:RowR w base v xs)
  (y:Rv) (g:Nat) (hx:a.eval x= .slice (some ⟨g,0,none⟩) 1 1) (hg:w.heap[g]? =some (.cells (rvC y).toArray 75 (0,0))) (hl:xs.length≤100) (hbase:base≤w.heap.size)
  (h:∀v' w',RowR w' base v' (xs++[y])→Below base w w'→K (a.put o.dst v') w'):if Region.wanted o (yielded ops a.tmps)=true then Oper.wp prog o a w K Q else E:=by
 obtain⟨i,hi,hz,hsz,hby⟩:=A4z;refine step_append_lies (w:=w) hgd s x 66 ho base 75 i _ 5 40 underlying66 hi hz hsz hby rfl (by decide) v xs.length (xs.flatMap rvC) hs hown ⟨g,0,none⟩ 1 1 (rvC y) hx rfl (World.news_of_block hg) (fun u hu=>by
  simp only[rvC,List.mem_cons,List.not_mem_nil,or_false]at hu;rcases hu with rfl|rfl|rfl|rfl|rfl<;>rfl) (by decide) (by unfold maxLen;omega) (by omega) hbase w.heap.size rfl ?_
 intro g' cap w' h1 h2 h3 h4;exact h _ _ (RowR.snoc y h1) ((Below.refl base w).grown h2 hbase (R5 hown))
def bs0(x:Cd):List Rv:=if hiH x.i=0 then[]else[⟨24,31,0,0,hiH x.i⟩,⟨0,31,31,rg0 x.a,0⟩]
def bf0(x:Cd):Int:=if hiH x.i=0 then rg0 x.a else 31
set_option maxHeartbeats 1000000 in
theorem A6w(x:Cd)(h0:0≤x.i)(h1:x.i<4294967296)(ha:x.a≤1000)(w:World):Calls prog 275 #[.agg #[],ncV x] w fun e w'=>∃u,e= .returned (.tuple #[u,.int .i64 (bf0 x),.int .i64 (loR x.i)])∧RowR w' w.heap.size u (bs0 x)∧Below w.heap.size w w':=by
 obtain⟨o,d,a,b,i,t⟩:=x;show Calls prog 275 #[.agg #[],.agg #[.int .i64 o,.int .i64 d,.int .i64 a,.int .i64 b,.int .u32 i,.int .i64 t]] w _
 simp only at h0 h1 ha;obtain⟨hb1,k1⟩:=B9 (w.alloc (.cells #[] 188)) [.int .i64 o,.int .i64 d,.int .i64 a,.int .i64 b,.int .u32 i,.int .i64 t] 61;have hb0:Below w.heap.size w (w.alloc (.cells #[] 188)):=(Below.refl _ _).alloc (Nat.le_refl _) _;obtain⟨W1,hW1⟩:∃W,(w.alloc (.cells #[] 188)).alloc (.cells #[.int .i64 o,.int .i64 d,.int .i64 a,.int .i64 b,.int .u32 i,.int .i64 t] 61)=W:=⟨_,rfl⟩
 rw[show([.int .i64 o,.int .i64 d,.int .i64 a,.int .i64 b,.int .u32 i,.int .i64 t]:List Value).toArray=#[.int .i64 o,.int .i64 d,.int .i64 a,.int .i64 b,.int .u32 i,.int .i64 t]from rfl,hW1]at hb1 k1;rw[show(w.alloc (.cells #[] 188)).heap.size=w.heap.size+1 by simp]at k1;have BB:Hid (Since w W1):=hid (A8 hb0 hb1);have x4:=(k1 4 _ rfl).1;have x2:=(k1 2 _ rfl).1;have hs:w.heap.size+1<W1.heap.size:=B6 x2;have C1:=hid (j7 i h0 h1);have C2:=hid (E0 a ha);unfold bs0 bf0;simp only;have X2:=hid x2;by_cases hz:hiH i=0
 ·rw[if_pos hz,if_pos hz];have dz:(hiH i==0)=true:=by simpa using hz
  generalize hiH i=hi at*
  generalize loR i=lo at*
  generalize rg0 a=ra at*
  clear hz k1 hb1 hb0;go_enter func275,ntmps275;go_wp2_with(first|(go_at_call 276;(with_reducible refine(C1.out _).mono ?_);rintro e w' ⟨rfl,rfl⟩)|((with_reducible refine(C2.out _).mono ?_);rintro e w2 ⟨rfl,hb2⟩))
  refine bodyPost_ret (v:=.tuple #[.slice none 0 0,.int .i64 ra,.int .i64 lo]) (by simp[results,results275,go_sem]) rfl ?_;exact⟨_,rfl,World.ownsRow_nil _ _ _ _,A8 BB.out hb2⟩
 ·rw[if_neg hz,if_neg hz];have dz:(hiH i==0)=false:=by simpa using hz
  have R:=hid (fun(wk:World) (h:Since W1 wk)=>A4N (w:=wk) (xs:=[⟨24,31,0,0,hiH i⟩,⟨0,31,31,rg0 a,0⟩]) (base:=w.heap.size) (by have:=h.size;omega) (by simp));generalize hiH i=hi at*
  generalize loR i=lo at*
  generalize rg0 a=ra at*
  clear hz k1 hb1 hb0;go_enter func275,ntmps275;go_wp2_with(first|(go_at_call 276;(with_reducible refine(C1.out _).mono ?_);rintro e w' ⟨rfl,rfl⟩)|((with_reducible refine(C2.out _).mono ?_);rintro e w2 ⟨rfl,hb2⟩))
  refine bodyPost_ret (v:=.tuple #[.slice (some ⟨w2.heap.size,0,none⟩) 2 2,.int .i64 31,.int .i64 lo]) (by simp[results,results275,go_sem]) rfl ?_;exact⟨_,rfl,R.out _ hb2,A8 (A8 BB.out hb2) ((Below.refl _ _).alloc (Nat.le_refl _) _)⟩
end Go.Proofs.YtajljbmeaeeknaaGreat
namespace Go.Proofs.YtajljbmeaeeknaaGreat
set_option linter.unusedVariables false
set_option linter.unusedSimpArgs false
structure Ins where
 o:Int
 d:Int
 s:Int
 z:Int
 i:Int
 deriving DecidableEq,Inhabited
def leB(n:Int):Nat→List Int
 |0=>[]
 |k+1=>n%256::leB (n / 256) k
theorem F2(n:Int)(k:Nat):(leB n k).length=k:=by
 induction k generalizing n with
 |zero=>rfl
 |succ k ih=>simp[leB,ih]
def mrB(r m:Int):Int:=(192+8*r+m)%256
def mmB(r m i:Int):List Int:=(128+8*r+m)%256::leB i 4
def pwZ(z:Int):Int:=2^z.toNat
def sgB(n z:Int):Int:=if 2^(z.toNat-1)≤n then n-pwZ z else n
def isR(n:Int):Bool:=decide (0≤n)&&decide (n≤7)
def isL(n:Int):Bool:=decide (0≤n)&&decide (n≤3)
def isM(n:Int):Bool:=isR n&&(n !=4)
def isC(n:Int):Bool:=decide (0≤n)&&(decide (n≤15)&&(n !=10&&n !=11))
def isB(n:Int):Bool:=decide (-128≤n)&&decide (n≤127)
def I8(n:Int):Bool:=decide (-2147483648≤n)&&decide (n≤2147483647)
def inZ(n z:Int):Bool:=decide (0≤n)&&decide (n≤pwZ z-1)
def A1M(o:Int):Int:=
 if o=14 then 0 else if o=15 then 1 else if o=16∨o=21 then 4 else if o=17∨o=22 then 5 else if o=18∨o=26 then 6
 else if o=19∨o=23∨o=27 then 7 else if o=24 then 2 else if o=25 then 3 else -1
def B0P(o:Int):Int:=
 if o=7 then 1 else if o=8 then 9 else if o=9 then 33 else if o=10 then 41 else if o=11 then 49 else if o=12 then 57 else if o=13 then 133 else 0
def szI(o:Int):List Int:=
 if 0≤o∧o≤3 then[32,16]else if 4≤o∧o≤6 then[32]else if 7≤o∧o≤19 then[32,16]else if o=20 then[32]
 else if 21≤o∧o≤25 then[32,16]else if 26≤o∧o≤31 then[32]else if o=32∨o=33 then[8,32]else if 34≤o∧o≤36 then[32]else[]
def M5(x:Ins):Bool:=(x.z==8&&isB x.i)||(x.z==32&&I8 x.i)
def J9(x:Ins):Bool:=
 if x.o=0∨(7≤x.o∧x.o≤13)∨x.o=20 then isR x.d&&(isR x.s&&x.i==0)
 else if x.o=1∨(14≤x.o∧x.o≤19)then isR x.d&&(x.s==0&&inZ x.i x.z)
 else if x.o=2∨x.o=4∨x.o=5 then isR x.d&&(isM x.s&&I8 x.i)
 else if x.o=3 then isM x.d&&(isR x.s&&I8 x.i)
 else if x.o=6 then isM x.d&&(isL x.s&&I8 x.i)
 else if 21≤x.o∧x.o≤27 then isR x.d&&(x.s==0&&x.i==0)
 else if x.o=28∨x.o=34∨x.o=35∨x.o=36 then x.d==0&&(x.s==0&&x.i==0)
 else if x.o=29 then isL x.d&&(isC x.s&&x.i==0)
 else if x.o=30 then isR x.d&&(isL x.s&&x.i==0)
 else if x.o=31 then isR x.d&&(isR x.s&&isC x.i)
 else if x.o=32 then x.d==0&&(isC x.s&&M5 x)
 else if x.o=33 then x.d==0&&(x.s==0&&M5 x)
 else false
def okI(x:Ins):Bool:=(szI x.o).contains x.z&&J9 x
def G8(x:Ins):List Int:=
 if x.o=0 then[137,mrB x.s x.d]
 else if x.o=1 then(184+x.d)%256::leB x.i (x.z / 8).toNat
 else if x.o=2 then 139::mmB x.d x.s x.i
 else if x.o=3 then 137::mmB x.s x.d x.i
 else if x.o=4 then 15::182::mmB x.d x.s x.i
 else if x.o=5 then 15::183::mmB x.d x.s x.i
 else if x.o=6 then 136::mmB x.s x.d x.i
 else if 7≤x.o∧x.o≤13 then[B0P x.o,mrB x.s x.d]
 else if 14≤x.o∧x.o≤19 then(if -128≤sgB x.i x.z∧sgB x.i x.z≤127 then[131,mrB (A1M x.o) x.d,x.i%256]else 129::mrB (A1M x.o) x.d::leB x.i (x.z / 8).toNat)
 else if x.o=20 then[15,175,mrB x.d x.s]
 else if 21≤x.o∧x.o≤23 then[211,mrB (A1M x.o) x.d]
 else if 24≤x.o∧x.o≤27 then[247,mrB (A1M x.o) x.d]
 else if x.o=28 then[153]
 else if x.o=29 then[15,(144+x.s)%256,mrB 0 x.d]
 else if x.o=30 then[15,182,mrB x.d x.s]
 else if x.o=31 then[15,(64+x.i)%256,mrB x.d x.s]
 else if x.o=32 then(if x.z=8 then[(112+x.s)%256,x.i%256]else 15::(128+x.s)%256::leB x.i 4)
 else if x.o=33 then(if x.z=8 then[235,x.i%256]else 233::leB x.i 4)
 else if x.o=34 then[244]
 else if x.o=35 then[15,11]
 else if x.o=36 then[144]
 else[]
def V3(x:Ins):List Int:=if x.z=16 then 102::G8 x else G8 x
/-! ### reading -/
end Go.Proofs.YtajljbmeaeeknaaGreat
namespace Go.Proofs.YtajljbmeaeeknaaGreat
open Go.RowKit
set_option linter.unusedVariables false
set_option linter.unusedSimpArgs false
theorem F5(n:Int)(w:World):Calls prog 173 #[.int .i64 n] w fun e w'=>e= .returned (.bool (isR n))∧w=w':=by
 unfold isR;cases h1:decide (0≤n)
 all_goals
  go_enter func173,ntmps173
  go_wp2
  go_ret;exact⟨rfl,rfl⟩
theorem X9(n:Int)(w:World):Calls prog 179 #[.int .i64 n] w fun e w'=>e= .returned (.bool (isL n))∧w=w':=by
 unfold isL;cases h1:decide (0≤n)
 all_goals
  go_enter func179,ntmps179
  go_wp2
  go_ret;exact⟨rfl,rfl⟩
theorem U3(n:Int)(w:World):Calls prog 187 #[.int .i64 n] w fun e w'=>e= .returned (.bool (isC n))∧w=w':=by
 unfold isC;cases h1:decide (0≤n)<;>cases h2:decide (n≤15)<;>cases h3:(n !=10)
 all_goals
  go_enter func187,ntmps187
  go_wp2
  go_ret;exact⟨rfl,rfl⟩
theorem F9(n a b:Int)(w:World):Calls prog 174 #[.int .i64 n,.int .i64 a,.int .i64 b] w fun e w'=>e= .returned (.bool (decide (a≤n)&&decide (n≤b)))∧w=w':=by
 cases h1:decide (a≤n)
 all_goals
  go_enter func174,ntmps174
  go_wp2
  go_ret;exact⟨rfl,rfl⟩
theorem J8(n:Int)(w:World):Calls prog 230 #[.int .i64 n] w fun e w'=>e= .returned (.bool (I8 n))∧w=w':=by
 unfold I8;go_enter func230,ntmps230;go_wp2_with(go_at_call 174;refine(F9 _ _ _ _).mono ?_;rintro e w' ⟨rfl,rfl⟩)
 go_ret;exact⟨rfl,rfl⟩
theorem P9(n:Int)(w:World):Calls prog 229 #[.int .i64 n] w fun e w'=>e= .returned (.bool (isM n))∧w=w':=by
 unfold isM;have C:=hid (F5 n w);cases h1:isR n<;>rw[h1]at C
 all_goals
  go_enter func229,ntmps229;go_wp2_with(go_at_call 173;refine C.out.mono ?_;rintro e w' ⟨rfl,rfl⟩)
  go_ret;exact⟨rfl,rfl⟩
def I64(n:Int):Prop:= -9223372036854775808≤n∧n≤9223372036854775807
theorem O4(r m:Int)(w:World):Calls prog 183 #[.int .i64 r,.int .i64 m] w fun e w'=>e= .returned (.int .u8 (mrB r m))∧w=w':=by
 go_enter func183,ntmps183
 go_wp2
 go_ret;exact⟨E9 (by unfold mrB wrap64;omega),rfl⟩
end Go.Proofs.YtajljbmeaeeknaaGreat
