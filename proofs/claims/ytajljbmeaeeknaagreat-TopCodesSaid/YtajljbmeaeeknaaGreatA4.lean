/- -/
import Derived.Maps.Keyed
import Derived.DeepKeys5
import Derived.Deep.MidRow
import Derived.Laws.ResultCell
import Derived.Laws.OwnMore
import Derived.WalkKit
import Derived.Test.YtajljbmeaeeknaaGreatA1
import Derived.Test.YtajljbmeaeeknaaGreatA2
import Derived.Test.YtajljbmeaeeknaaGreatA3
open Go.Proofs.Tryz
open Go.Lib (hid)
set_option maxRecDepth 100000
namespace Go.Proofs.YtajljbmeaeeknaaGreat
open Go.RowKit
set_option linter.unusedVariables false
set_option linter.unusedSimpArgs false
theorem j5(h:Bool)(r:Int):(decide (r<0)=true∧rgR h r=false)∨(decide (r<0)=false∧decide (31<r)=true∧rgR h r=false)∨(decide (r<0)=false∧decide (31<r)=false∧h=true∧rgR h r=true)
  ∨(decide (r<0)=false∧decide (31<r)=false∧h=false∧(r==0)=false∧rgR h r=false)∨(decide (r<0)=false∧decide (31<r)=false∧h=false∧(r==0)=true∧rgR h r=true):=by
 unfold rgR;by_cases h1:r<0
 ·exact .inl ⟨by simp[h1],by simp;omega⟩
 by_cases h2:31<r
 ·exact .inr (.inl ⟨by simp;omega,by simp[h2],by simp;omega⟩)
 cases h
 ·by_cases h3:r=0
  ·subst h3;exact .inr (.inr (.inr (.inr ⟨by decide,by decide,rfl,by decide,by decide⟩)))
  ·exact .inr (.inr (.inr (.inl ⟨by simp;omega,by simp;omega,rfl,by simp[h3],by simp[h3]⟩)))
 ·exact .inr (.inr (.inl ⟨by simp;omega,by simp;omega,rfl,by simp;omega⟩))
def erR(x:Rv):Int:=if okR x=true then 0 else 1
set_option maxHeartbeats 4000000 in
theorem z6(x:Rv)(w:World):Calls prog 54 #[RvV x] w fun e w'=>e= .returned (.int .i64 (erR x))∧Below w.heap.size w w':=by
 obtain⟨o,d,a,b,i⟩:=x;obtain⟨E,hE⟩:∃E,erR ⟨o,d,a,b,i⟩=E:=⟨_,rfl⟩
 obtain⟨f,hf⟩:∃f,fmR o=f:=⟨_,rfl⟩
 have hfb:0≤f∧f≤10:=by
  by_cases h0:o<0∨40<o
  ·rw[←hf];unfold fmR;rw[if_pos h0];omega
  ·have:=I7 o (by omega) (by omega);omega
 obtain⟨p,hp⟩:∃p,hdR f=p:=⟨_,rfl⟩
 obtain⟨q,hq⟩:∃p,haR f=p:=⟨_,rfl⟩
 obtain⟨r,hr⟩:∃p,hbR f=p:=⟨_,rfl⟩
 have K:Hid ((rgR p d=false→1=E)∧(rgR q a=false→1=E)∧(rgR r b=false→1=E)∧(f=10→1=E)∧(fiR f i=false→1=E)∧(rgR p d=true→rgR q a=true→rgR r b=true→f≠10→fiR f i=true→0=E)):=by
  refine hid ?_;rw[←hE,←hp,←hq,←hr,←hf];unfold erR okR;refine⟨fun h=>?_,fun h=>?_,fun h=>?_,fun h=>?_,fun h=>?_,fun h1 h2 h3 h4 h5=>?_⟩
  ·simp[h]
  ·simp[h]
  ·simp[h]
  ·simp[h]
  ·simp[h]
  ·simp[h1,h2,h3,h4,h5]
 rw[hE];have C1:Hid (∀w,Calls prog 84 #[.int .i64 o] w fun e w'=>e= .returned (.int .i64 f)∧w=w'):=hid (fun w=>by rw[←hf];exact D9 o w);have C2:Hid (∀w,∃s,Calls prog 85 #[.int .i64 f] w fun e w'=>e= .returned (.agg #[.bool p,.bool q,.bool r,.bool s])∧Below w.heap.size w w'):=hid (fun w=>⟨_,by have:=M5 f hfb w;unfold hsV hsL at this;rw[hp,hq,hr]at this;simpa using this⟩);have C3:Hid (f≠10→∀w,Calls prog 86 #[.int .i64 f,.int .i64 i] w fun e w'=>e= .returned (.bool (fiR f i))∧w=w'):=hid (fun h w=>A7B f i (by omega) w);obtain⟨u,hu⟩:∃u,fiR f i=u:=⟨_,rfl⟩
 rw[hu]at C3 K;clear hf hp hq hr hu hfb hE;show Calls prog 54 #[.agg #[.int .i64 o,.int .i64 d,.int .i64 a,.int .i64 b,.int .i64 i]] w _
 obtain⟨W1,hW1⟩:∃W,w.alloc (.cells #[.int .i64 o,.int .i64 d,.int .i64 a,.int .i64 b,.int .i64 i] 75)=W:=⟨_,rfl⟩
 have BB:Hid (Below w.heap.size w W1):=by rw[←hW1];exact(Below.refl _ _).alloc (Nat.le_refl _) _
 have hs:w.heap.size<W1.heap.size:=by rw[←hW1];simp
 have z0:W1.cell? ⟨w.heap.size,0,none⟩=some (.int .i64 o):=by rw[←hW1];simp[go_sem]
 have z1:W1.cell? ⟨w.heap.size,1,none⟩=some (.int .i64 d):=by rw[←hW1];simp[go_sem]
 have z2:W1.cell? ⟨w.heap.size,2,none⟩=some (.int .i64 a):=by rw[←hW1];simp[go_sem]
 have z3:W1.cell? ⟨w.heap.size,3,none⟩=some (.int .i64 b):=by rw[←hW1];simp[go_sem]
 have z4:W1.cell? ⟨w.heap.size,4,none⟩=some (.int .i64 i):=by rw[←hW1];simp[go_sem]
 have Z1:=hid z1;have Z2:=hid z2;have Z3:=hid z3;have Z4:=hid z4;clear z1 z2 z3 z4;obtain⟨s,C2'⟩:=C2.out W1;have C2:=hid C2';clear C2';go_enter func54,ntmps54;go_wp2_with(first|(go_at_call 84;(with_reducible refine(C1.out _).mono ?_);rintro e w' ⟨rfl,rfl⟩)|(go_at_call 85;(with_reducible refine C2.out.mono ?_);rintro e w2 ⟨rfl,hb2⟩;have x1:=A0 hb2 hs Z1.out;have x2:=A0 hb2 hs Z2.out;have x3:=A0 hb2 hs Z3.out;have x4:=A0 hb2 hs Z4.out;have hl2:w.heap.size<w2.heap.size:=Nat.lt_of_lt_of_le hs hb2.size;have hne:¬w.heap.size=w2.heap.size:=(by omega);have HB2:=hid (J4 BB.out (by omega) hb2);clear hb2 z0))
 generalize hW4:(w2.alloc (.cells #[.bool p,.bool q,.bool r,.bool s] 165)).alloc (.cells #[.int .i64 d,.int .i64 a,.int .i64 b] 3)=W4;have hB4:Below w2.heap.size w2 W4:=by rw[←hW4];exact((Below.refl _ _).alloc (Nat.le_refl _) _).alloc (by simp) _
 have HW4:Hid (Below w.heap.size w W4):=J4 HB2.out (by omega) hB4;have y4:=A0 hB4 hl2 x4;have h0:W4.cell? ⟨w2.heap.size,0,none⟩=some (.bool p):=by rw[←hW4];simp[go_sem]
 have h1:W4.cell? ⟨w2.heap.size,1,none⟩=some (.bool q):=by rw[←hW4];simp[go_sem]
 have h2:W4.cell? ⟨w2.heap.size,2,none⟩=some (.bool r):=by rw[←hW4];simp[go_sem]
 have i0:W4.cell? ⟨w2.heap.size+1,0,none⟩=some (.int .i64 d):=by rw[←hW4];simp[go_sem]
 have i1:W4.cell? ⟨w2.heap.size+1,1,none⟩=some (.int .i64 a):=by rw[←hW4];simp[go_sem]
 have i2:W4.cell? ⟨w2.heap.size+1,2,none⟩=some (.int .i64 b):=by rw[←hW4];simp[go_sem]
 clear hW4 hB4 x1 x2 x3 x4 Z1 Z2 Z3 Z4 hW1 C1 C2
 go_loopw[5,6,20] (fun _ _ i wr=>∃j:Int,(j=0∨(j=1∧rgR p d=true)∨(j=2∧rgR p d=true∧rgR q a=true)∨(j=3∧rgR p d=true∧rgR q a=true∧rgR r b=true))∧i= .int .i64 j∧W4=wr) (fun _ _ i _=>3-(intOf i).toNat)
 case atStart=>exact⟨0,.inl rfl,rfl,rfl⟩
 case round=>
  obtain⟨j,hj,rfl,rfl⟩:=hrel;rcases hj with rfl|⟨rfl,g0⟩|⟨rfl,g0,g1⟩|⟨rfl,g0,g1,g2⟩
  ·rcases j5 p d with⟨t1,e⟩|⟨t1,t2,e⟩|⟨t1,t2,rfl,e⟩|⟨t1,t2,rfl,t3,e⟩|⟨t1,t2,rfl,t3,e⟩<;>(have HE:=hid e;clear e)
   ·go_wp2_with fail
    go_ret;exact⟨L6 (K.out.1 HE.out),HW4.out⟩
   ·go_wp2_with fail
    go_ret;exact⟨L6 (K.out.1 HE.out),HW4.out⟩
   ·go_wp2_with fail
    go_roundw
    case rel=>exact⟨1,.inr (.inl ⟨rfl,HE.out⟩),rfl,trivial⟩
    case measure=>simp[intOf]
   ·go_wp2_with fail
    go_ret;exact⟨L6 (K.out.1 HE.out),HW4.out⟩
   ·go_wp2_with fail
    go_roundw
    case rel=>exact⟨1,.inr (.inl ⟨rfl,HE.out⟩),rfl,trivial⟩
    case measure=>simp[intOf]
  ·have G0:=hid g0;clear g0;rcases j5 q a with⟨t1,e⟩|⟨t1,t2,e⟩|⟨t1,t2,rfl,e⟩|⟨t1,t2,rfl,t3,e⟩|⟨t1,t2,rfl,t3,e⟩<;>(have HE:=hid e;clear e)
   ·go_wp2_with fail
    go_ret;exact⟨L6 (K.out.2.1 HE.out),HW4.out⟩
   ·go_wp2_with fail
    go_ret;exact⟨L6 (K.out.2.1 HE.out),HW4.out⟩
   ·go_wp2_with fail
    go_roundw
    case rel=>exact⟨2,.inr (.inr (.inl ⟨rfl,G0.out,HE.out⟩)),rfl,trivial⟩
    case measure=>simp[intOf]
   ·go_wp2_with fail
    go_ret;exact⟨L6 (K.out.2.1 HE.out),HW4.out⟩
   ·go_wp2_with fail
    go_roundw
    case rel=>exact⟨2,.inr (.inr (.inl ⟨rfl,G0.out,HE.out⟩)),rfl,trivial⟩
    case measure=>simp[intOf]
  ·have G0:=hid g0;have G1:=hid g1;clear g0 g1;rcases j5 r b with⟨t1,e⟩|⟨t1,t2,e⟩|⟨t1,t2,rfl,e⟩|⟨t1,t2,rfl,t3,e⟩|⟨t1,t2,rfl,t3,e⟩<;>(have HE:=hid e;clear e)
   ·go_wp2_with fail
    go_ret;exact⟨L6 (K.out.2.2.1 HE.out),HW4.out⟩
   ·go_wp2_with fail
    go_ret;exact⟨L6 (K.out.2.2.1 HE.out),HW4.out⟩
   ·go_wp2_with fail
    go_roundw
    case rel=>exact⟨3,.inr (.inr (.inr ⟨rfl,G0.out,G1.out,HE.out⟩)),rfl,trivial⟩
    case measure=>simp[intOf]
   ·go_wp2_with fail
    go_ret;exact⟨L6 (K.out.2.2.1 HE.out),HW4.out⟩
   ·go_wp2_with fail
    go_roundw
    case rel=>exact⟨3,.inr (.inr (.inr ⟨rfl,G0.out,G1.out,HE.out⟩)),rfl,trivial⟩
    case measure=>simp[intOf]
  ·have G:=hid (And.intro g0 (And.intro g1 g2));clear g0 g1 g2;by_cases h10:f=10
   ·have t:(f==10)=true:=by simp[h10]
    have HT:=hid h10;clear h10;go_wp2_with fail
    go_ret;exact⟨L6 (K.out.2.2.2.1 HT.out),HW4.out⟩
   ·have t:(f==10)=false:=by simp[h10]
    have HT:=hid h10;have C3':=hid (C3.out h10);clear h10;cases u
    ·go_wp2_with(go_at_call 86;(with_reducible refine(C3'.out _).mono ?_);rintro e w' ⟨rfl,rfl⟩)
     go_ret;exact⟨L6 (K.out.2.2.2.2.1 (by trivial)),HW4.out⟩
    ·go_wp2_with(go_at_call 86;(with_reducible refine(C3'.out _).mono ?_);rintro e w' ⟨rfl,rfl⟩)
     go_ret;exact⟨L6 (K.out.2.2.2.2.2 G.out.1 G.out.2.1 G.out.2.2 HT.out (by trivial)),HW4.out⟩
def ecR(x:Rv):Int:=if okR x=true then C7 x else 0
theorem T8(x:Rv)(w:World):Calls prog 21 #[RvV x] w fun e w'=>e= .returned (.tuple #[.int .u32 (ecR x),.int .i64 (erR x)])∧Below w.heap.size w w':=by
 have C1:=hid (z6 x);have C2:=hid (K9 x);obtain⟨o,d,a,b,i⟩:=x;obtain⟨E,hE⟩:∃E,erR ⟨o,d,a,b,i⟩=E:=⟨_,rfl⟩
 have HK:Hid ((okR ⟨o,d,a,b,i⟩=true∧E=0)∨(okR ⟨o,d,a,b,i⟩=false∧E=1)):=by
  rw[←hE];unfold erR;refine hid ?_;cases okR ⟨o,d,a,b,i⟩<;>simp
 rw[hE]at C1⊢;clear hE;obtain⟨V,hV⟩:∃V,ecR ⟨o,d,a,b,i⟩=V:=⟨_,rfl⟩
 have HV:=hid hV;rw[hV];clear hV;unfold RvV at C1 C2⊢;obtain⟨W1,hW1⟩:∃W,w.alloc (.cells #[.int .i64 o,.int .i64 d,.int .i64 a,.int .i64 b,.int .i64 i] 75)=W:=⟨_,rfl⟩
 have BB:Hid (Below w.heap.size w W1):=by rw[←hW1];exact(Below.refl _ _).alloc (Nat.le_refl _) _
 have hs:w.heap.size<W1.heap.size:=by rw[←hW1];simp
 have z0:W1.cell? ⟨w.heap.size,0,none⟩=some (.int .i64 o):=by rw[←hW1];simp[go_sem]
 have z1:W1.cell? ⟨w.heap.size,1,none⟩=some (.int .i64 d):=by rw[←hW1];simp[go_sem]
 have z2:W1.cell? ⟨w.heap.size,2,none⟩=some (.int .i64 a):=by rw[←hW1];simp[go_sem]
 have z3:W1.cell? ⟨w.heap.size,3,none⟩=some (.int .i64 b):=by rw[←hW1];simp[go_sem]
 have z4:W1.cell? ⟨w.heap.size,4,none⟩=some (.int .i64 i):=by rw[←hW1];simp[go_sem]
 go_enter func21,ntmps21;rcases HK.out with⟨hk,rfl⟩|⟨hk,rfl⟩
 ·have C2:=hid (C2.out hk);have HV2:Hid (C7 ⟨o,d,a,b,i⟩=V):=hid (by rw[←HV.out];unfold ecR;rw[if_pos hk]);rw[HV2.out]at C2;clear hk HV HV2;go_wp2_with(first|(go_at_call 54;(with_reducible refine(C1.out _).mono ?_);rintro e wa ⟨rfl,hb⟩;have y0:=A0 hb hs z0;have y1:=A0 hb hs z1;have y2:=A0 hb hs z2;have y3:=A0 hb hs z3;have y4:=A0 hb hs z4;have HB:=hid (J4 BB.out (by omega) hb);have hl:w.heap.size≤wa.heap.size:=Nat.le_trans (Nat.le_of_lt hs) hb.size;clear hb z0 z1 z2 z3 z4)|(go_at_call 55;(with_reducible refine(C2.out _).mono ?_);rintro e wb ⟨rfl,hb⟩))
  go_ret2
  exact⟨rfl,J4 HB.out (by omega) hb⟩
 ·have HV2:Hid (0=V):=hid (by rw[←HV.out];unfold ecR;rw[if_neg (by simp[hk])]);go_wp2_with(go_at_call 54;(with_reducible refine(C1.out _).mono ?_);rintro e wa ⟨rfl,hb⟩;have HB:=hid (J4 BB.out (by omega) hb);clear hb)
  go_ret2
  exact⟨by have e:=HV2.out;subst e;rfl,HB.out⟩
end Go.Proofs.YtajljbmeaeeknaaGreat
namespace Go.Proofs.YtajljbmeaeeknaaGreat
open Go.RowKit Go.Maps
set_option linter.unusedVariables false
set_option linter.unusedSimpArgs false
def f7(l:List (Value×Value)):Array MapEntry:=(l.mapIdx fun i p=>(⟨p.1,p.2,i⟩:MapEntry)).toArray
theorem T0{l:List (Value×Value)}{e:MapEntry}(h:e∈(f7 l).toList):(e.key,e.val)∈l:=by
 unfold f7 at h;simp only[List.mem_mapIdx]at h;obtain⟨i,hi,rfl⟩:=h;exact List.getElem_mem hi
theorem A5G(l:List (Value×Value))(k v:Value):(f7 l).push ⟨k,v,l.length⟩=f7 (l++[(k,v)]):=by
 unfold f7;simp
def MapIs(P:Program)(K:TypeId)(w:World)(r:Nat)(l:List (Value×Value)):Prop:=
 r<w.heap.size∧Q1 w r=some (f7 l,l.length)∧(∀p∈l,∃q,keyOf P K p.1=some q)∧(l.map (·.1)).Nodup
section
variable {P : Program} {t K E : TypeId} {w : World} {r : Nat} {l : List (Value × Value)}
theorem A3K(law:Keyed P K)(ht:P.underlying t=some (.map K E))(h:MapIs P K w r l){k v:Value}{q:Lit}(hk:keyOf P K k=some q)(hm:(k,v)∈l):
  (Instr.lookup t (.map (some r)) k true).run P w= .ok (.tuple #[v,.bool true]) w:=by
 obtain⟨_,h1,h2,h3⟩:=h;have hb:=U1 h1;have hfind:=law.find w hk (f7 l).toList (fun e he=>h2 _ (T0 he));have hval:∀e∈(f7 l).toList,e.key=k→e.val=v:=by
  intro e he hek;have hm2:=T0 he;rw[hek]at hm2;obtain⟨i,hi,e1⟩:=List.getElem_of_mem hm;obtain⟨j,hj,e2⟩:=List.getElem_of_mem hm2;have hij:i=j:=by
   have hp:=List.pairwise_iff_getElem.1 h3;rcases Nat.lt_trichotomy i j with h|h|h
   ·exact absurd (show(l.map (·.1))[i]'(by simpa using hi)=(l.map (·.1))[j]'(by simpa using hj)from by simp[e1,e2]) (hp i j (by simpa using hi) (by simpa using hj) h)
   ·exact h
   ·exact absurd (show(l.map (·.1))[j]'(by simpa using hj)=(l.map (·.1))[i]'(by simpa using hi)from by simp[e1,e2]) (hp j i (by simpa using hj) (by simpa using hi) h)
  subst hij;rw[e1]at e2;cases e2;rfl
 rcases hfind with⟨_,hno⟩|⟨j,e,hrun,hj,hek⟩
 ·exfalso;obtain⟨i,hi,e1⟩:=List.getElem_of_mem hm;refine hno ⟨k,v,i⟩ ?_ rfl;unfold f7;simp only[List.mem_mapIdx];exact⟨i,hi,by rw[e1]⟩
 ·have hv:=hval e (List.mem_of_getElem? hj) hek;simp[Instr.lookup,run_underlying ht,MapKept.run_getObj_map hb,law.check w _ hk,hrun,hv,Result.andThen]
theorem A1z(law:Keyed P K)(ht:P.underlying t=some (.map K E)){z:Value}(hz:∀w,(zeroValue E).run P w= .ok z w)(h:MapIs P K w r l){k:Value}{q:Lit}(hk:keyOf P K k=some q)(hm:∀p∈l,p.1≠k):
  (Instr.lookup t (.map (some r)) k true).run P w= .ok (.tuple #[z,.bool false]) w:=by
 obtain⟨_,h1,h2,h3⟩:=h;have hb:=U1 h1;rcases law.find w hk (f7 l).toList (fun e he=>h2 _ (T0 he))with⟨hrun,_⟩|⟨j,e,hrun,hj,hek⟩
 ·simp[Instr.lookup,run_underlying ht,MapKept.run_getObj_map hb,law.check w _ hk,hrun,hz,Result.andThen]
 ·exact absurd hek (hm _ (T0 (List.mem_of_getElem? hj)))
theorem A2y(law:Keyed P K)(ht:P.underlying t=some (.map K E))(h:MapIs P K w r l){k v:Value}{q:Lit}(hk:keyOf P K k=some q)(hm:∀p∈l,p.1≠k):
  (Instr.mapUpdate t (.map (some r)) k v).run P w= .ok () (L4 w r (f7 (l++[(k,v)])) (l.length+1)):=by
 obtain⟨_,h1,h2,h3⟩:=h;have hb:=U1 h1;rcases law.find w hk (f7 l).toList (fun e he=>h2 _ (T0 he))with⟨hrun,_⟩|⟨j,e,hrun,hj,hek⟩
 ·simp[Instr.mapUpdate,run_underlying ht,MapKept.run_getObj_map hb,law.check w _ hk,hrun,MapKept.run_setObj_map _ hb,Result.andThen,L4,A5G]
 ·exact absurd hek (hm _ (T0 (List.mem_of_getElem? hj)))
theorem A0s{es es':Array MapEntry}{c c':Nat}(h:Q1 w r=some (es,c)):Q1 (L4 w r es' c') r=some (es',c'):=by
 have hb:=U1 h;have hlt:r<w.heap.size:=by
  rcases Nat.lt_or_ge r w.heap.size with h|h
  ·exact h
  ·rw[Array.getElem?_eq_none h]at hb;cases hb
 unfold Q1 L4;simp[Array.getElem?_setIfInBounds,hlt]
theorem MapIs.new(h:MapIs P K w r l){k v:Value}{q:Lit}(hk:keyOf P K k=some q)(hm:∀p∈l,p.1≠k):MapIs P K (L4 w r (f7 (l++[(k,v)])) (l.length+1)) r (l++[(k,v)]):=by
 obtain⟨h0,h1,h2,h3⟩:=h;refine⟨by rw[s8];exact h0,by rw[A0s h1];simp,?_,?_⟩
 ·intro p hp;rcases List.mem_append.1 hp with hp|hp
  ·exact h2 p hp
  ·simp at hp;subst hp;exact⟨q,hk⟩
 ·rw[List.map_append,List.nodup_append];refine⟨h3,by simp,?_⟩;intro a ha b hb;simp at hb;subst hb;obtain⟨p,hp,rfl⟩:=List.mem_map.1 ha;exact hm p hp
theorem MapIs.below{w':World}(h:MapIs P K w r l)(hb:Below w.heap.size w w'):MapIs P K w' r l:=by
 obtain⟨h0,h1,h2,h3⟩:=h;refine⟨Nat.lt_of_lt_of_le h0 hb.size,?_,h2,h3⟩;rw[←h1];unfold Q1;rw[hb.block r h0]
theorem MapIs.made{w:World}:MapIs P K (w.alloc (.map #[] 0)) w.heap.size []:=
 ⟨by simp,by rw[V3 _ _ _ _ rfl];rfl,(fun p hp=>by cases hp),by simp⟩
theorem A1T{B:Nat}{w w':World}(h:Below B w w'){r:Nat}(hr:B≤r)(es:Array MapEntry)(c:Nat):Below B w (L4 w' r es c):=by
 refine h.trans ⟨rfl,rfl,rfl,by simp[L4],fun k hk=>?_⟩;show(w'.heap.setIfInBounds r _)[k]? =_
 rw[Array.getElem?_setIfInBounds,if_neg (by omega)]
theorem A2f{w:World}{r b o:Nat}{es:Array MapEntry}{c:Nat}(h:b≠r):(L4 w r es c).cell? ⟨b,o,none⟩=w.cell? ⟨b,o,none⟩:=by
 unfold World.cell? L4;simp only[Array.getElem?_setIfInBounds];rw[if_neg (fun e=>h e.symm)]
theorem A2H{w:World}{r b o:Nat}{es:Array MapEntry}{c:Nat}(h:b≠r):(L4 w r es c).frozen? ⟨b,o,none⟩=w.frozen? ⟨b,o,none⟩:=by
 unfold World.frozen? L4;simp only[Array.getElem?_setIfInBounds];rw[if_neg (fun e=>h e.symm)]
end
end Go.Proofs.YtajljbmeaeeknaaGreat
namespace Go.Proofs.YtajljbmeaeeknaaGreat
open Go.RowKit Go.Maps
set_option linter.unusedVariables false
set_option linter.unusedSimpArgs false
theorem B1e{p:Prop}(h:p:=by
 unfold fV at hst;obtain⟨hrun,hnew⟩:=hst;rw[O3 _ _ _ _ _ hlt]at hnew hrun;have HNEW:=hid hnew;have HBN:=hid (HB.out.trans (BW.mono (Nat.le_of_lt hlt)));clear hnew BW;go_wp2_with fail
 go_roundw
 case rel=>
  have hj9:=HJ.out;exact⟨j+1,HJ.out,by go_num,HNEW.out,by rw[←O3 _ _ _ _ _ hlt];exact A1T HBN.out (Nat.le_refl _) _ _⟩
 case measure=>simp[intOf];omega
 ):p:=h
theorem B3y{p:Prop}(h:p:=by
 go_upto_region 11 with(first|(go_at_call 84;(with_reducible refine(C1.out _).mono ?_);rintro e w1 ⟨rfl,rfl⟩)|(go_at_call 87;(with_reducible refine(C2.out _).mono ?_);rintro e w1 ⟨rfl,rfl⟩)|(go_at_call 88;(with_reducible refine(C3.out _).mono ?_);rintro e w1 ⟨rfl,rfl⟩)|(go_at_call 89;(with_reducible refine(C4.out _).mono ?_);rintro e w1 ⟨rfl,rfl⟩))
 have BW:Below wr.heap.size wr (wr.alloc (.cells #[.int .u32 c,.int .u32 0,.int .u32 0] 171)):=(Below.refl _ _).alloc (Nat.le_refl _) _;have hst:=HST.out _ (MapIs.below HD.out BW);rw[HK1.out,HK2.out,HK3.out,if_pos (by decide),if_neg (by decide)]at hst;exact B1e
 ):p:=h
theorem B3x{p:Prop}(h:p:=by
 go_upto_region 11 with(first|(go_at_call 84;(with_reducible refine(C1.out _).mono ?_);rintro e w1 ⟨rfl,rfl⟩)|(go_at_call 87;(with_reducible refine(C2.out _).mono ?_);rintro e w1 ⟨rfl,rfl⟩)|(go_at_call 88;(with_reducible refine(C3.out _).mono ?_);rintro e w1 ⟨rfl,rfl⟩)|(go_at_call 89;(with_reducible refine(C4.out _).mono ?_);rintro e w1 ⟨rfl,rfl⟩))
 have BW:Below wr.heap.size wr (wr.alloc (.cells #[.int .u32 c,.int .u32 t,.int .u32 s] 171)):=(Below.refl _ _).alloc (Nat.le_refl _) _;have hst:=HST.out _ (MapIs.below HD.out BW);rw[HK1.out,HK2.out,HK3.out,if_neg (by decide),if_pos (by decide)]at hst;exact B1e
 ):p:=h
def k1(o:Int):Int:=cdR (fmR o)
def k2(o:Int):Int:=if fmR o=3∨fmR o=7 then 0 else thR o
def k3(o:Int):Int:=if fmR o=0∨fmR o=2 then svR o else 0
def fV(c t s:Int):Value:=.agg #[.int .u32 c,.int .u32 t,.int .u32 s]
def x8(n:Nat):List (Value×Value):=(List.range n).map fun(k:Nat)=>(fV (k1 (k:Int)) (k2 (k:Int)) (k3 (k:Int)),.int .i64 (k:Int))
theorem A6j:∀i j:Fin 39,k1 (i.1:Int)=k1 (j.1:Int)→k2 (i.1:Int)=k2 (j.1:Int)→k3 (i.1:Int)=k3 (j.1:Int)→i=j:=by decide
theorem A8o:∀i:Fin 39,(0≤k1 (i.1:Int)∧k1 (i.1:Int)<128)∧(0≤k2 (i.1:Int)∧k2 (i.1:Int)<8)∧(0≤k3 (i.1:Int)∧k3 (i.1:Int)<128):=by decide
theorem A7E{c t s c' t' s':Int}(h:fV c t s=fV c' t' s'):c=c'∧t=t'∧s=s':=by
 unfold fV at h;simp only[Value.agg.injEq,Array.mk.injEq,List.cons.injEq,Value.int.injEq,true_and,and_true]at h;exact h
theorem A8n{P:Program}{t:TypeId}{d:Nat}{q:IntKind}{n:Int}(hu:P.underlying t=some (.int q))(hw:(Lit.int q n).wf=true):P.keyLits (d+1) t [.int q n]=some [.int q n]:=by
 unfold Program.keyLits;rw[hu];simp[hw]
theorem B1z:Keyed prog 171:=Keyed.of_law (deep_law_gate (by kernel_rfl) (of_decide_eq_true (by kernel_rfl)) (of_decide_eq_true (by kernel_rfl)) (by kernel_rfl) (by kernel_rfl))
theorem wf_u32{n:Int}(h0:0≤n)(h1:n<4294967296):(Lit.int .u32 n).wf=true:=by
 exact WalkArith.wf_u32 ⟨h0,by first|exact h1|omega⟩
theorem B4k(a b c:Int)(ha:0≤a∧a<4294967296)(hb:0≤b∧b<4294967296)(hc:0≤c∧c<4294967296):
  ∃q,keyOf prog 171 (fV a b c)=some q:=by
 have h1:prog.keyType 171=true:=by kernel_rfl
 have h2:prog.cellsOf 171=3:=by kernel_rfl
 have h3:prog.cellsOf 45=1:=by kernel_rfl
 have h6:prog.types.size=(prog.types.size-2)+2:=by kernel_rfl
 unfold keyOf fV;rw[underlying171];rw[h6];generalize prog.types.size-2=n;simp only[h1,Value.formed,underlying171,h2];unfold Program.keyLits;rw[underlying171];simp[h2,h3,Value.cells,A8n underlying45,wf_u32 ha.1 ha.2,wf_u32 hb.1 hb.2,wf_u32 hc.1 hc.2]
theorem B2N{n:Nat}(h:n<39):∃q,keyOf prog 171 (fV (k1 (n:Int)) (k2 (n:Int)) (k3 (n:Int)))=some q:=by
 obtain⟨a,b,c⟩:=A8o ⟨n,h⟩;exact B4k _ _ _ ⟨a.1,by have:=a.2;simp only at this;omega⟩ ⟨b.1,by have:=b.2;simp only at this;omega⟩ ⟨c.1,by have:=c.2;simp only at this;omega⟩
theorem A2b{n:Nat}(h:n<39):∀p∈x8 n,p.1≠fV (k1 (n:Int)) (k2 (n:Int)) (k3 (n:Int)):=by
 intro p hp e;unfold x8 at hp;obtain⟨i,hi,rfl⟩:=List.mem_map.1 hp;have hi':=List.mem_range.1 hi;obtain⟨e1,e2,e3⟩:=A7E e;have:=A6j ⟨i,by omega⟩ ⟨n,h⟩ e1 e2 e3;have:=congrArg Fin.val this;simp only at this;omega
theorem A5H(n:Nat):x8 n++[(fV (k1 (n:Int)) (k2 (n:Int)) (k3 (n:Int)),.int .i64 (n:Int))]=x8 (n+1):=by
 unfold x8;rw[List.range_succ,List.map_append];rfl
theorem A7M(n:Nat):(x8 n).length=n:=by unfold x8;simp
def DecIs(w:World)(r n:Nat):Prop:=MapIs prog 171 w r (x8 n)
theorem A7Y{w:World}{r n:Nat}(h:n<39)(hm:DecIs w r n):(Instr.mapUpdate 126 (.map (some r)) (fV (k1 (n:Int)) (k2 (n:Int)) (k3 (n:Int))) (.int .i64 (n:Int))).run prog w= .ok () (L4 w r (f7 (x8 (n+1))) (n+1))∧DecIs (L4 w r (f7 (x8 (n+1))) (n+1)) r (n+1):=by
 obtain⟨q,hq⟩:=B2N h;have u:=A2y B1z underlying126 hm hq (v:=.int .i64 (n:Int)) (A2b h);have m:=MapIs.new hm hq (v:=.int .i64 (n:Int)) (A2b h);rw[A5H,A7M]at u m;exact⟨u,m⟩
set_option maxHeartbeats 4000000 in
theorem R4(w:World):Calls prog 56 #[] w fun e w'=>e= .returned (.map (some w.heap.size))∧DecIs w' w.heap.size 39∧Below w.heap.size w w':=by
 obtain⟨hmk⟩:Nonempty (∀w:World,(Instr.makeMap 126 none).run prog w= .ok (.map (some w.heap.size)) (w.alloc (.map #[] 0))):=⟨fun _=>by kernel_rfl⟩
 go_enter func56,ntmps56;go_wp2_with fail
 clear hmk
 go_loopw[2,3,4] (fun o _ _ wr=>∃j:Nat,j≤39∧o= .int .i64 j∧DecIs wr w.heap.size j∧Below w.heap.size w wr) (fun o _ _ _=>39-(intOf o).toNat)
 case atStart=>exact⟨0,Nat.zero_le _,rfl,MapIs.made,(Below.refl _ _).alloc (Nat.le_refl _) _⟩
 case round=>
  obtain⟨j,hj,rfl,hd,hb⟩:=hrel;have HD:=hid hd;have HB:=hid hb;have hlt:=hd.1;clear hd hb;by_cases hjl:j<39
  ·have t0:decide ((j:Int)≤38)=true:=by simp;omega
   obtain⟨f,hf⟩:∃f,fmR (j:Int)=f:=⟨_,rfl⟩
   have hfb:0≤f∧f≤9:=by have:=I7 (j:Int) (by omega) (by omega);omega
   have C1:Hid (∀w,Calls prog 84 #[.int .i64 (j:Int)] w fun e w'=>e= .returned (.int .i64 f)∧w=w'):=hid (fun w=>by rw[←hf];exact D9 _ w);have C2:=hid (L8 f hfb);have C3:=hid (fun w=>M1 (j:Int) w (by omega) (by omega));have C4:=hid (J5 (j:Int));have HST:=hid (fun(wk:World) (h:DecIs wk w.heap.size j)=>A7Y hjl h);obtain⟨c,hc⟩:∃c,cdR f=c:=⟨_,rfl⟩
   obtain⟨t,ht⟩:∃c,thR (j:Int)=c:=⟨_,rfl⟩
   obtain⟨s,hs⟩:∃c,svR (j:Int)=c:=⟨_,rfl⟩
   have HK1:Hid (k1 (j:Int)=c):=by unfold k1;rw[hf];exact hc
   rw[hc]at C2;rw[ht]at C3;rw[hs]at C4;have hcase:(f=3∨f=7)∨(f=0∨f=2)∨(f≠3∧f≠7∧f≠0∧f≠2):=by omega
   have HK2:Hid (k2 (j:Int)=if f=3∨f=7 then 0 else t):=by unfold k2;rw[hf,ht];exact hid rfl
   have HK3:Hid (k3 (j:Int)=if f=0∨f=2 then s else 0):=by unfold k3;rw[hf,hs];exact hid rfl
   have HJ:=hid hjl;have hw:IntKind.i64.wrap ((j:Int)+1)=(j:Int)+1:=by rw[IntWalk.i64_left];exact IntWalk.wrap64_in _ (by omega)
   have i1:(j:Int)<39:=by omega
   clear hf hfb hc ht hs hjl hj;have hne:¬w.heap.size=wr.heap.size:=by omega
   rcases hcase with hc|hc|⟨h3,h7,h0,h2⟩
   ·rcases hc with rfl|rfl
    ·exact B3y
    ·exact B3y
   ·rcases hc with rfl|rfl
    ·exact B3x
    ·exact B3x
   ·have t3:(f==3)=false:=by simp[h3]
    have t7:(f==7)=false:=by simp[h7]
    have t8:(f==0)=false:=by simp[h0]
    have t2:(f==2)=false:=by simp[h2]
    have n3:(f !=3)=true:=by simp[h3]
    have n7:(f !=7)=true:=by simp[h7]
    have m3:decide (f=3)=false:=by simp[h3]
    have m7:decide (f=7)=false:=by simp[h7]
    have HN:Hid (f≠3∧f≠7∧f≠0∧f≠2):=hid ⟨h3,h7,h0,h2⟩;clear h3 h7 h0 h2;go_upto_region 11 with(first|(go_at_call 84;(with_reducible refine(C1.out _).mono ?_);rintro e w1 ⟨rfl,rfl⟩)|(go_at_call 87;(with_reducible refine(C2.out _).mono ?_);rintro e w1 ⟨rfl,rfl⟩)|(go_at_call 88;(with_reducible refine(C3.out _).mono ?_);rintro e w1 ⟨rfl,rfl⟩)|(go_at_call 89;(with_reducible refine(C4.out _).mono ?_);rintro e w1 ⟨rfl,rfl⟩))
    have BW:Below wr.heap.size wr (wr.alloc (.cells #[.int .u32 c,.int .u32 t,.int .u32 0] 171)):=(Below.refl _ _).alloc (Nat.le_refl _) _;have hst:=HST.out _ (MapIs.below HD.out BW);rw[HK1.out,HK2.out,HK3.out,if_neg (by have:=HN.out;omega),if_neg (by have:=HN.out;omega)]at hst;exact B1e
  ·have t0:decide ((j:Int)≤38)=false:=by simp;omega
   have hj39:39=j:=by omega
   have HJ:=hid hj39;clear hj39 hj hjl;go_wp2_with fail
   go_ret;exact⟨rfl,by have e:=HJ.out;subst e;exact HD.out,HB.out⟩
theorem B3d{p:Prop}(h:p:=by
 go_wp2_with(first|(go_at_call 84;(with_reducible refine(C1.out _).mono ?_);rintro e w1 ⟨rfl,rfl⟩)|(go_at_call 84;(with_reducible refine(C2.out _).mono ?_);rintro e w1 ⟨rfl,rfl⟩))
 go_ret2
 exact⟨(by have e:=HP.out;simp[Gf13.out,Gf17.out,Gf20.out,Gf22.out]at e;obtain⟨rfl,rfl⟩:=e;rfl),BB.out _ _ _⟩
 ):p:=h
theorem B3a{p:Prop}(h:p:=by
 go_wp2_with(first|(go_at_call 84;(with_reducible refine(C1.out _).mono ?_);rintro e w1 ⟨rfl,rfl⟩)|(go_at_call 84;(with_reducible refine(C2.out _).mono ?_);rintro e w1 ⟨rfl,rfl⟩))
 go_ret2
 exact⟨(by have e:=HP.out;simp[Gf20.out,Gf22.out]at e;obtain⟨rfl,rfl⟩:=e;rfl),BB.out _ _ _⟩
 ):p:=h
theorem B3Z{p:Prop}(h:p:=by
 go_wp2_with(first|(go_at_call 84;(with_reducible refine(C1.out _).mono ?_);rintro e w1 ⟨rfl,rfl⟩)|(go_at_call 84;(with_reducible refine(C2.out _).mono ?_);rintro e w1 ⟨rfl,rfl⟩))
 go_ret2
 exact⟨(by have e:=HP.out;simp[Gf13.out,Gf17.out]at e;obtain⟨rfl,rfl⟩:=e;rfl),BB.out _ _ _⟩
 ):p:=h
def isK(c t s:Int)(k:Nat):Bool:=k1 (k:Int)==c&&(k2 (k:Int)==t&&k3 (k:Int)==s)
def lkR(c t s:Int):Int:=match(List.range 39).find? (isK c t s)with
 |some k=>(k:Int)
 |none=>41
def O0(n:Int):Int:=if n=41 then 0 else n
def fIs(n:Int):Bool:= !(n==41)
def B5O(v1 v2 v3 R:Int)(q1 q2 q3 Q:Bool):Bool:=
 if q1&&(fmR v1==3||fmR v1==7)then v1==R&&Q else if q2&& !(fmR v2==0||fmR v2==2)then v2==R&&Q else v3==R&&q3==Q
def A6r(c t s:Int):Bool:=B5O (O0 (lkR c 0 0)) (O0 (lkR c t 0)) (O0 (lkR c t s)) (O0 (opR c t s)) (fIs (lkR c 0 0)) (fIs (lkR c t 0)) (fIs (lkR c t s)) (fIs (opR c t s))
def cdL:List Int:=[51,19,55,3,35,99,111,103]
theorem A4A:∀c∈cdL,∀t∈([0,1,2,3,4,5,6,7]:List Int),∀s∈([0,1,32,2]:List Int),A6r c t s=true:=of_decide_eq_true (by kernel_rfl)
theorem B4m:∀i:Fin 39,k1 (i.1:Int)∈cdL:=by decide
theorem B4l:∀i:Fin 39,k3 (i.1:Int)∈([0,1,32]:List Int):=by decide
theorem A3w{c t s:Int}(h:∀i:Fin 39,isK c t s i.1=false):lkR c t s=41:=by
 unfold lkR;have:(List.range 39).find? (isK c t s)=none:=List.find?_eq_none.2 fun k hk=>by
  have:=h ⟨k,List.mem_range.1 hk⟩;simp only at this;rw[this];simp
 rw[this]
theorem A0u{c:Int}(h:c∉cdL)(t s:Int):lkR c t s=41:=A3w fun i=>by
 unfold isK;have h1:(k1 (i.1:Int)==c)=false:=beq_false_of_ne fun e=>h (e▸B4m i)
 rw[h1];rfl
theorem A6g{s:Int}(h:s∉([0,1,32]:List Int))(c t:Int):lkR c t s=41:=A3w fun i=>by
 unfold isK;have h1:(k3 (i.1:Int)==s)=false:=beq_false_of_ne fun e=>h (e▸B4l i)
 rw[h1];simp
theorem A8f{c:Int}(h:c∉cdL)(t s:Int):opR c t s=41:=by
 unfold cdL at h;simp only[List.mem_cons,List.not_mem_nil,or_false,not_or]at h;obtain⟨h1,h2,h3,h4,h5,h6,h7,h8⟩:=h;unfold opR;rw[if_neg h3,if_neg h7,if_neg h8,if_neg h2,if_neg h4,if_neg h5,if_neg h6,if_neg h1]
theorem B1i{s:Int}(h:s∉([0,1,32]:List Int))(c t:Int):opR c t s=opR c t 2:=by
 simp only[List.mem_cons,List.not_mem_nil,or_false,not_or]at h;obtain⟨h1,h2,h3⟩:=h;unfold opR;simp only[if_neg h1,if_neg h2,if_neg h3,Int.reduceEq,if_false]
theorem A4z{c t s:Int}(ht:0≤t∧t<8):A6r c t s=true:=by
 by_cases hc:c∈cdL
 ·have h8:t∈([0,1,2,3,4,5,6,7]:List Int):=by
   simp only[List.mem_cons,List.not_mem_nil,or_false];omega
  by_cases hs:s∈([0,1,32]:List Int)
  ·exact A4A c hc t h8 s (by simp only[List.mem_cons,List.not_mem_nil,or_false]at hs⊢;omega)
  ·have:=A4A c hc t h8 2 (by simp);unfold A6r at this⊢;rw[A6g hs,B1i hs];rw[A6g (s:=2) (by decide)]at this;exact this
 ·unfold A6r;rw[A0u hc,A0u hc,A0u hc,A8f hc]
  decide
theorem A0C{w:World}{r:Nat}(h:DecIs w r 39){c t s:Int}(hc:0≤c∧c<4294967296)(ht:0≤t∧t<4294967296)(hs:0≤s∧s<4294967296):
  (Instr.lookup 126 (.map (some r)) (fV c t s) true).run prog w= .ok (.tuple #[.int .i64 (O0 (lkR c t s)),.bool (fIs (lkR c t s))]) w:=by
 obtain⟨q,hq⟩:=B4k c t s hc ht hs;unfold lkR;cases e:(List.range 39).find? (isK c t s)with
 |none=>
  have hn:=List.find?_eq_none.1 e;refine A1z B1z underlying126 (z:=.int .i64 0) (fun w=>by kernel_rfl) h hq ?_;intro p hp e2;unfold x8 at hp;obtain⟨k,hk,rfl⟩:=List.mem_map.1 hp;obtain⟨e3,e4,e5⟩:=A7E e2;refine hn k hk ?_;unfold isK;rw[e3,e4,e5];simp
 |some k=>
  have hk:=List.mem_of_find?_eq_some e;have hp:=List.find?_some e;unfold isK at hp;simp only[Bool.and_eq_true,beq_iff_eq]at hp;have hk':=List.mem_range.1 hk;have f1:O0 (k:Int)=k:=by unfold O0;rw[if_neg (by omega)]
  have f2:fIs (k:Int)=true:=by
   unfold fIs;have:((k:Int)==41)=false:=by simp;omega
   rw[this];rfl
  simp only[f1,f2];refine A3K B1z underlying126 h hq ?_;unfold x8;exact List.mem_map.2 ⟨k,hk,by rw[hp.1,hp.2.1,hp.2.2]⟩
set_option maxHeartbeats 4000000 in
theorem M8(x:Int)(x0:0≤x)(x1:x<4294967296)(r:Nat)(w:World)(hd:DecIs w r 39):Calls prog 91 #[.map (some r),.int .u32 x] w fun e w'=>e= .returned (.tuple #[.int .i64 (O0 (opR (x%128) (x / 4096%8) (x / 33554432))),.bool (fIs (opR (x%128) (x / 4096%8) (x / 33554432)))])∧Below w.heap.size w w':=by
 have r1:bits .and .u32 x 127=x%128:=A9 7 x0 x1 (by decide) rfl;have r2:bits .and .u32 (x / 4096) 7=x / 4096%8:=A9 3 (by omega) (by omega) (by decide) rfl;have hrs:r<w.heap.size:=hd.1;have hP:=A4z (c:=x%128) (t:=x / 4096%8) (s:=x / 33554432) (by omega);unfold A6r at hP;have c0:0≤x%128∧x%128<4294967296:=by omega
 have t0:0≤x / 4096%8∧x / 4096%8<4294967296:=by omega
 have s0:0≤x / 33554432∧x / 33554432<4294967296:=by omega
 obtain⟨c,hc⟩:∃c,x%128=c:=⟨_,rfl⟩
 obtain⟨t,ht⟩:∃c,x / 4096%8=c:=⟨_,rfl⟩
 obtain⟨s,hs⟩:∃c,x / 33554432=c:=⟨_,rfl⟩
 rw[hc]at r1 hP c0⊢;rw[ht]at r2 hP t0⊢;rw[hs]at hP s0⊢;have B (a b c:Int):Below w.heap.size w (w.alloc (.cells #[.int .u32 a,.int .u32 b,.int .u32 c] 171)):=(Below.refl _ _).alloc (Nat.le_refl _) _;have l1:=A0C (MapIs.below hd (B c 0 0)) c0 (t:=0) (s:=0) (by decide) (by decide);have l2:=A0C (MapIs.below hd (B c t 0)) c0 t0 (s:=0) (by decide);have l3:=A0C (MapIs.below hd (B c t s)) c0 t0 s0;unfold fV at l1 l2 l3;obtain⟨v1,hv1⟩:∃v,O0 (lkR c 0 0)=v:=⟨_,rfl⟩
 obtain⟨v2,hv2⟩:∃v,O0 (lkR c t 0)=v:=⟨_,rfl⟩
 obtain⟨v3,hv3⟩:∃v,O0 (lkR c t s)=v:=⟨_,rfl⟩
 obtain⟨q1,hq1⟩:∃v,fIs (lkR c 0 0)=v:=⟨_,rfl⟩
 obtain⟨q2,hq2⟩:∃v,fIs (lkR c t 0)=v:=⟨_,rfl⟩
 obtain⟨q3,hq3⟩:∃v,fIs (lkR c t s)=v:=⟨_,rfl⟩
 obtain⟨R,hR⟩:∃v,O0 (opR c t s)=v:=⟨_,rfl⟩
 obtain⟨Q,hQ⟩:∃v,fIs (opR c t s)=v:=⟨_,rfl⟩
 rw[hv1,hv2,hv3,hq1,hq2,hq3,hR,hQ]at hP;rw[hv1,hq1]at l1;rw[hv2,hq2]at l2;rw[hv3,hq3]at l3;rw[hR,hQ];have HP:=hid hP;have HS:=hid hs;have BB:=hid B;obtain⟨f1,hf1⟩:∃f,fmR v1=f:=⟨_,rfl⟩
 obtain⟨f2,hf2⟩:∃f,fmR v2=f:=⟨_,rfl⟩
 unfold B5O at HP;rw[hf1,hf2]at HP;have C1:Hid (∀w,Calls prog 84 #[.int .i64 v1] w fun e w'=>e= .returned (.int .i64 f1)∧w=w'):=hid (fun w=>by rw[←hf1];exact D9 _ w);have C2:Hid (∀w,Calls prog 84 #[.int .i64 v2] w fun e w'=>e= .returned (.int .i64 f2)∧w=w'):=hid (fun w=>by rw[←hf2];exact D9 _ w);clear hP hv1 hv2 hv3 hq1 hq2 hq3 hR hQ hf1 hf2 c0 t0 s0 B hc ht hd x0 x1;go_enter func91,ntmps91;go_upto_region 3 with fail
 clear l1;cases q1
 ·skip
  cases q2
  ·skip
   go_wp2_with(first|(go_at_call 84;(with_reducible refine(C1.out _).mono ?_);rintro e w1 ⟨rfl,rfl⟩)|(go_at_call 84;(with_reducible refine(C2.out _).mono ?_);rintro e w1 ⟨rfl,rfl⟩))
   go_ret2
   exact⟨(by have e:=HP.out;simp[]at e;obtain⟨rfl,rfl⟩:=e;rfl),BB.out _ _ _⟩
  ·skip
   cases g:(f2==0)
   ·have ef20:(f2==0)=false:=g;have nf20:(f2 !=0)=true:=(by simp[bne,g]);have df20:decide (f2=0)=false:=(by rw[←g];rfl);have Gf20:=hid g;clear g;cases g:(f2==2)
    ·have ef22:(f2==2)=false:=g;have nf22:(f2 !=2)=true:=(by simp[bne,g]);have df22:decide (f2=2)=false:=(by rw[←g];rfl);have Gf22:=hid g;clear g;exact B3a
    ·have ef22:(f2==2)=true:=g;have nf22:(f2 !=2)=false:=(by simp[bne,g]);have df22:decide (f2=2)=true:=(by rw[←g];rfl);have Gf22:=hid g;clear g;exact B3a
   ·have ef20:(f2==0)=true:=g;have nf20:(f2 !=0)=false:=(by simp[bne,g]);have df20:decide (f2=0)=true:=(by rw[←g];rfl);have Gf20:=hid g;clear g;go_wp2_with(first|(go_at_call 84;(with_reducible refine(C1.out _).mono ?_);rintro e w1 ⟨rfl,rfl⟩)|(go_at_call 84;(with_reducible refine(C2.out _).mono ?_);rintro e w1 ⟨rfl,rfl⟩))
    go_ret2
    exact⟨(by have e:=HP.out;simp[Gf20.out]at e;obtain⟨rfl,rfl⟩:=e;rfl),BB.out _ _ _⟩
 ·skip
  cases g:(f1==3)
  ·have ef13:(f1==3)=false:=g;have nf13:(f1 !=3)=true:=(by simp[bne,g]);have df13:decide (f1=3)=false:=(by rw[←g];rfl);have Gf13:=hid g;clear g;cases g:(f1==7)
   ·have ef17:(f1==7)=false:=g;have nf17:(f1 !=7)=true:=(by simp[bne,g]);have df17:decide (f1=7)=false:=(by rw[←g];rfl);have Gf17:=hid g;clear g;cases q2
    ·skip
     exact B3Z
    ·skip
     cases g:(f2==0)
     ·have ef20:(f2==0)=false:=g;have nf20:(f2 !=0)=true:=(by simp[bne,g]);have df20:decide (f2=0)=false:=(by rw[←g];rfl);have Gf20:=hid g;clear g;cases g:(f2==2)
      ·have ef22:(f2==2)=false:=g;have nf22:(f2 !=2)=true:=(by simp[bne,g]);have df22:decide (f2=2)=false:=(by rw[←g];rfl);have Gf22:=hid g;clear g;exact B3d
      ·have ef22:(f2==2)=true:=g;have nf22:(f2 !=2)=false:=(by simp[bne,g]);have df22:decide (f2=2)=true:=(by rw[←g];rfl);have Gf22:=hid g;clear g;exact B3d
     ·have ef20:(f2==0)=true:=g;have nf20:(f2 !=0)=false:=(by simp[bne,g]);have df20:decide (f2=0)=true:=(by rw[←g];rfl);have Gf20:=hid g;clear g;go_wp2_with(first|(go_at_call 84;(with_reducible refine(C1.out _).mono ?_);rintro e w1 ⟨rfl,rfl⟩)|(go_at_call 84;(with_reducible refine(C2.out _).mono ?_);rintro e w1 ⟨rfl,rfl⟩))
      go_ret2
      exact⟨(by have e:=HP.out;simp[Gf13.out,Gf17.out,Gf20.out]at e;obtain⟨rfl,rfl⟩:=e;rfl),BB.out _ _ _⟩
   ·have ef17:(f1==7)=true:=g;have nf17:(f1 !=7)=false:=(by simp[bne,g]);have df17:decide (f1=7)=true:=(by rw[←g];rfl);have Gf17:=hid g;clear g;exact B3Z
  ·have ef13:(f1==3)=true:=g;have nf13:(f1 !=3)=false:=(by simp[bne,g]);have df13:decide (f1=3)=true:=(by rw[←g];rfl);have Gf13:=hid g;clear g;go_wp2_with(first|(go_at_call 84;(with_reducible refine(C1.out _).mono ?_);rintro e w1 ⟨rfl,rfl⟩)|(go_at_call 84;(with_reducible refine(C2.out _).mono ?_);rintro e w1 ⟨rfl,rfl⟩))
   go_ret2
   exact⟨(by have e:=HP.out;simp[Gf13.out]at e;obtain⟨rfl,rfl⟩:=e;rfl),BB.out _ _ _⟩
def Cls(w:World)(b:Nat)(cs:List Value):Prop:=∀k v,cs[k]? =some v→w.cell? ⟨b,k,none⟩=some v∧w.frozen? ⟨b,k,none⟩=false
theorem Cls.set{w:World}{b:Nat}{cs:List Value}(h:Cls w b cs){k:Nat}(hk:k<cs.length)(u:Value):Cls (w.setCell ⟨b,k,none⟩ u) b (cs.set k u):=by
 exact B3k
theorem Cls.other{w:World}{b b' k:Nat}{cs:List Value}(h:Cls w b cs)(hb:b≠b')(u:Value):Cls (w.setCell ⟨b',k,none⟩ u) b cs:=by
 intro j v hj;have:=h j v hj;exact⟨by rw[World.cell?_setCell_other _ _ _ _ (by intro hh;cases hh;exact hb rfl)];exact this.1,by rw[World.frozen?_setCell];exact this.2⟩
theorem Cls.lt{w:World}{b:Nat}{cs:List Value}(h:Cls w b cs)(h0:0<cs.length):b<w.heap.size:=F9 (h 0 _ (List.getElem?_eq_getElem h0)).1
theorem Cls.block{w w':World}{b:Nat}{cs:List Value}(h:Cls w b cs)(hb:w'.heap[b]? =w.heap[b]?):Cls w' b cs:=fun k v hk=>by
 have:=h k v hk;unfold World.cell? World.frozen? at this⊢;rw[hb];exact this
theorem Cls.below{w w':World}{b B:Nat}{cs:List Value}(h:Cls w b cs)(hB:b<B)(hb:Below B w w'):Cls w' b cs:=h.block (hb.block b hB)
theorem Cls.map{w:World}{b r:Nat}{cs:List Value}(h:Cls w b cs)(hb:b≠r)(es:Array MapEntry)(c:Nat):Cls (L4 w r es c) b cs:=fun k v hk=>by
 have:=h k v hk;exact⟨by rw[A2f hb];exact this.1,by rw[A2H hb];exact this.2⟩
theorem Cls.made{w:World}{cs:List Value}{t:TypeId}:Cls (w.alloc (.cells cs.toArray t)) w.heap.size cs:=fun k v hk=>by
 constructor
 ·simp[go_sem,hk]
 ·simp[go_sem]
theorem Cls.res2{P:Program}{fn:Func}{p u:Tmp}{ty:TypeId}{tmps:Array Value}{w:World}{b:Nat}{cs:List Value}{d:TypeDesc}{v:Value}(h:Cls w b cs)(hf:fn.results=#[.cell p ty,.tmp u])(hp:tmps.getD p undef= .pointer (some ⟨b,0,none⟩))(hv:tmps.getD u undef=v)(hu:P.underlying ty=some d)(hd:d.isRow=true)(hi:(P.info? ty).map (·.size)=some cs.length):
  (results fn tmps).run P w= .ok (.tuple #[.agg cs.toArray,v]) w:=by
 have hr:w.rangeAt b 0 cs:=fun j v hj=>by rw[Nat.zero_add];exact(h j v hj).1
 rw[results_cell_tmp hf,hp,hv];simp[asAddr,run_loadVar_mid w b 0 ty cs d hr hu hd hi,Result.andThen]
theorem Cls.at{w:World}{b:Nat}{cs:List Value}(h:Cls w b cs)(k:Nat)(v:Value)(hk:cs[k]? =some v):w.cell? ⟨b,k,none⟩=some v:=(h k v hk).1
theorem Cls.at'{w:World}{b:Nat}{cs:List Value}(h:Cls w b cs)(k:Nat)(v:Value)(hk:cs[k]? =some v):w.frozen? ⟨b,k,none⟩=false:=(h k v hk).2
theorem Cls.res1{P:Program}{fn:Func}{p:Tmp}{ty:TypeId}{tmps:Array Value}{w:World}{b:Nat}{cs:List Value}{d:TypeDesc}(h:Cls w b cs)(hf:fn.results=#[.cell p ty])(hp:tmps.getD p undef= .pointer (some ⟨b,0,none⟩))(hu:P.underlying ty=some d)(hd:d.isRow=true)(hi:(P.info? ty).map (·.size)=some cs.length):
  (results fn tmps).run P w= .ok (.agg cs.toArray) w:=by
 have hr:w.rangeAt b 0 cs:=fun j v hj=>by rw[Nat.zero_add];exact(h j v hj).1
 have hp':tmps[p]?.getD undef= .pointer (some ⟨b,0,none⟩):=by simpa using hp
 simp[results,hf,hp',asAddr,run_loadVar_mid w b 0 ty cs d hr hu hd hi]
def rv0:Rv:=⟨0,0,0,0,0⟩
def dcV(x:Int):Value:=.tuple (match P8 x with
 |some y=>#[RvV y,.bool true]
 |none=>#[RvV rv0,.bool false])
def rvC(x:Rv):List Value:=[.int .i64 x.o,.int .i64 x.d,.int .i64 x.a,.int .i64 x.b,.int .i64 x.i]
theorem Cls.five{w:World}{b:Nat}{v0 v1 v2 v3 v4:Value}(h:Cls w b [v0,v1,v2,v3,v4]):(w.cell? ⟨b,0,none⟩=some v0∧w.cell? ⟨b,1,none⟩=some v1∧w.cell? ⟨b,2,none⟩=some v2∧w.cell? ⟨b,3,none⟩=some v3∧w.cell? ⟨b,4,none⟩=some v4)∧
  (w.frozen? ⟨b,0,none⟩=false∧w.frozen? ⟨b,1,none⟩=false∧w.frozen? ⟨b,2,none⟩=false∧w.frozen? ⟨b,3,none⟩=false∧w.frozen? ⟨b,4,none⟩=false):=
 ⟨⟨h.at 0 _ rfl,h.at 1 _ rfl,h.at 2 _ rfl,h.at 3 _ rfl,h.at 4 _ rfl⟩,h.at' 0 _ rfl,h.at' 1 _ rfl,h.at' 2 _ rfl,h.at' 3 _ rfl,h.at' 4 _ rfl⟩
set_option maxHeartbeats 4000000 in
theorem A2d(r:Nat)(w:World):Calls prog 57 #[.map (some r),.int .u32 115] w fun e w'=>e= .returned (.tuple #[RvV ⟨39,0,0,0,0⟩,.bool true])∧Below w.heap.size w w':=by
 go_enter func57,ntmps57;go_wp2_with fail
 refine bodyPost_ret (v:=.tuple #[.agg (rvC ⟨39,0,0,0,0⟩).toArray,.bool true]) (Cls.res2 (cs:=rvC ⟨39,0,0,0,0⟩) Cls.made rfl rfl rfl underlying75 rfl (by kernel_rfl)) rfl ⟨rfl,(Below.refl _ w).alloc (Nat.le_refl _) _⟩
set_option maxHeartbeats 4000000 in
theorem A3d(r:Nat)(w:World):Calls prog 57 #[.map (some r),.int .u32 1048691] w fun e w'=>e= .returned (.tuple #[RvV ⟨40,0,0,0,0⟩,.bool true])∧Below w.heap.size w w':=by
 go_enter func57,ntmps57;go_wp2_with fail
 refine bodyPost_ret (v:=.tuple #[.agg (rvC ⟨40,0,0,0,0⟩).toArray,.bool true]) (Cls.res2 (cs:=rvC ⟨40,0,0,0,0⟩) Cls.made rfl rfl rfl underlying75 rfl (by kernel_rfl)) rfl ⟨rfl,(Below.refl _ w).alloc (Nat.le_refl _) _⟩
set_option maxHeartbeats 4000000 in
theorem A2c(x:Int)(x0:0≤x)(x1:x<4294967296)(r:Nat)(w:World)(hd:DecIs w r 39)(n1:(x==115)=false)(n2:(x==1048691)=false)(ho:opR (x%128) (x / 4096%8) (x / 33554432)=41):Calls prog 57 #[.map (some r),.int .u32 x] w fun e w'=>e= .returned (.tuple #[RvV rv0,.bool false])∧Below w.heap.size w w':=by
 have CF0:=M8 x x0 x1 r (w.alloc (.cells #[.int .i64 0,.int .i64 0,.int .i64 0,.int .i64 0,.int .i64 0] 75)) (MapIs.below hd ((Below.refl _ _).alloc (Nat.le_refl _) _));rw[ho]at CF0;have CF:Hid (Calls prog 91 #[.map (some r),.int .u32 x] (w.alloc (.cells #[.int .i64 0,.int .i64 0,.int .i64 0,.int .i64 0,.int .i64 0] 75)) fun e w'=>e= .returned (.tuple #[.int .i64 0,.bool false])∧Below (w.heap.size+1) (w.alloc (.cells #[.int .i64 0,.int .i64 0,.int .i64 0,.int .i64 0,.int .i64 0] 75)) w'):=hid (CF0.mono fun e w' h=>⟨h.1,by have:=h.2;rwa[World.size_alloc]at this⟩);have HC0:Hid (Cls (w.alloc (.cells #[.int .i64 0,.int .i64 0,.int .i64 0,.int .i64 0,.int .i64 0] 75)) w.heap.size (rvC rv0)):=hid Cls.made;have BB:Hid (Below w.heap.size w (w.alloc (.cells #[.int .i64 0,.int .i64 0,.int .i64 0,.int .i64 0,.int .i64 0] 75))):=hid ((Below.refl _ _).alloc (Nat.le_refl _) _);clear CF0 ho hd x0 x1;go_enter func57,ntmps57;go_upto_region 7 with(go_at_call 91;(with_reducible refine CF.out.mono ?_);rintro e w2 ⟨rfl,hb2⟩)
 have HC:=HC0.out.below (Nat.lt_succ_self _) hb2;obtain⟨⟨c0,c1,c2,c3,c4⟩,f0,f1,f2,f3,f4⟩:=HC.five;have HB:Hid (Below w.heap.size w w2):=hid (BB.out.trans (hb2.mono (Nat.le_succ _)));have HCC:=hid HC;clear HC hb2;go_wp2_with fail
 refine bodyPost_ret (v:=.tuple #[.agg (rvC rv0).toArray,.bool false]) (Cls.res2 (cs:=rvC rv0) (((((HCC.out.set (k:=0) (by decide) _).set (k:=1) (by simp[rvC]) _).set (k:=2) (by simp[rvC]) _).set (k:=3) (by simp[rvC]) _).set (k:=4) (by simp[rvC]) _) rfl rfl rfl underlying75 rfl (by kernel_rfl)) rfl ⟨rfl,A6 (A6 (A6 (A6 (A6 HB.out (Nat.le_refl _) _ _) (Nat.le_refl _) _ _) (Nat.le_refl _) _ _) (Nat.le_refl _) _ _) (Nat.le_refl _) _ _⟩
end Go.Proofs.YtajljbmeaeeknaaGreat
