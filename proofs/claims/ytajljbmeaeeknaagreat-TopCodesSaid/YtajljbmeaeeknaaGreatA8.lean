/- -/
import Derived.Test.YtajljbmeaeeknaaGreatA7
open Go.Proofs.Tryz
open Go.Lib (hid)
set_option maxRecDepth 100000
namespace Go.Proofs.YtajljbmeaeeknaaGreat
open Go.RowKit Go.Maps
set_option linter.unusedVariables false
set_option linter.unusedSimpArgs false
theorem B4A{p:Prop}(h:p:=by
 injection eD with e3 e4 e5
 injection e3 with e6
 injection e6 with e7
 subst e7;have ed:=ho.cell (i:=k) (by show k<(I0 c.m k y 0).length;omega);have fd:=ho.free (i:=k) (by show k<(I0 c.m k y 0).length;omega);have hDl:=ho.1;obtain⟨-,c34,-,-⟩:=hv.cells;have hM:=hv.ltM;rw[HMV.out]at c34;have HSET:Hid (VM B M r mv {c with m:=I0 c.m k y 1} (wr.setCell ⟨D',k,none⟩ (.int .u8 z0))):=hid (by
  have h2:=hv.setM1 (D:=D') (cap:=cap) (q:=k) (y:=byR y 0) (by show mv=Value.slice _ (I0 c.m k y 0).length _;rw[hlen];exact HMV.out) (by show k<(I0 c.m k y 0).length;omega) (P9 y 0);rw[HZ0.out]at h2;have e9:I0 c.m k y 1=(I0 c.m k y 0).set (k) z0:=by rw[←HZ0.out];rfl
  rw[e9];exact h2)
 have HBS:=hid (A6 HBR.out hDB (k) (.int .u8 z0));clear hlen hll ho e' e4 e5 hv;go_wp2_with fail
 go_region
 go_wp2_with fail
 go_roundw
 case rel=>first|exact⟨.inr (.inl ⟨rfl,HSET.out⟩),HBS.out⟩|exact⟨.inr (.inl ⟨rfl,HSET.out.below (Below.refl _ _).drew⟩),HBS.out.drew⟩
 case measure=>simp[intOf]
 ):p:=h
theorem B1R{p:Prop}(h:p:=by
 rw[decide_eq_false hl]at CW;have HL:=hid hl;clear hl h;go_enter func114,ntmps114;go_wp2_with(go_at_call 156;(with_reducible refine CW.out.mono ?_);rintro e wa ⟨rfl,hdr⟩;have HDR:=hid hdr;clear hdr)
 go_ret;exact⟨HDR.out.below _,.inr ⟨by have:=HL.out;omega,rfl,H.out.below (HDR.out.below _)⟩⟩
 ):p:=h
def byR(y:Int)(j:Nat):Int:=if j=0 then y%256 else if j=1 then y / 256%256 else if j=2 then y / 65536%256 else y / 16777216%256
theorem P9(y:Int)(j:Nat):0≤byR y j∧byR y j<256:=by
 unfold byR
 split
 ·omega
 ·split
  ·omega
  ·split<;>omega
def I0(m:List Int)(k:Nat)(y:Int):Nat→List Int
 |0=>m
 |n+1=>(I0 m k y n).set (k+n) (byR y n)
theorem T7(m:List Int)(k:Nat)(y:Int)(n:Nat):(I0 m k y n).length=m.length:=by
 induction n with
 |zero=>rfl
 |succ n ih=>show((I0 m k y n).set (k+n) (byR y n)).length=_;rw[List.length_set,ih]
def StP(B M r:Nat)(mv:Value)(c:Mac)(k n:Nat)(y:Int)(w:World)(e:Ending)(w':World):Prop:=
 Below B w w'∧((k+n≤c.m.length∧e= .returned (.bool true)∧VM B M r mv {c with m:=I0 c.m k y n} w')∨(c.m.length<k+n∧e= .returned (.bool false)∧VM B M r mv c w'))
set_option maxHeartbeats 4000000 in
theorem A8C{B M r:Nat}{mv:Value}{c:Mac}(k:Nat)(y:Int)(w:World)(h:VM B M r mv c w)(hk:k<4294967296)(y0:0≤y)(y1:y<4294967296):Calls prog 114 #[.pointer (some ⟨M,0,none⟩),.int .u32 (k:Int),.int .i64 1,.int .u32 y] w (StP B M r mv c k 1 y w):=by
 have CW:Hid (Calls prog 156 #[.pointer (some ⟨M,0,none⟩),.int .u32 (k:Int),.int .i64 1] w fun e w'=>e= .returned (.tuple #[.int .i64 (k:Int),.bool (decide (k+1≤c.m.length))])∧Dr w w'):=hid (Q6 k 1 w h hk (by decide));have H:=hid h;by_cases hl:k+1≤c.m.length
 ·rw[decide_eq_true hl]at CW;obtain⟨D,cap,hmv,hcap,hD1,hD2,hDB,-⟩:=h.whole (by omega);have hml:=h.ml;have hBM:=h.n4;have HMV:=hid hmv;have HL:=hid hl;have k0:(0:Int)≤(k:Int):=by omega
  have j0:(k:Int)<(c.m.length:Int):=by omega
  obtain⟨z0,hz0⟩:∃z,byR y 0=z:=⟨_,rfl⟩
  have HZ0:=hid hz0;have q0:y%256=z0:=by rw[←hz0];rfl
  have zb0:=P9 y 0;rw[hz0]at zb0;clear h hmv hl hz0 zb0;go_enter func114,ntmps114;go_wp2_with(go_at_call 156;(with_reducible refine CW.out.mono ?_);rintro e wa ⟨rfl,hdr⟩;have HW:=hid (H.out.below (hdr.below _));have HB:=hid (hdr.below (w:=w) B);clear hdr)
  go_loopw[11,22] (fun _ i wr=>((i= .int .i64 0∧VM B M r mv {c with m:=I0 c.m k y 0} wr)∨(i= .int .i64 1∧VM B M r mv {c with m:=I0 c.m k y 1} wr))∧Below B w wr) (fun _ i _=>1-(intOf i).toNat)
  case atStart=>exact⟨.inl ⟨rfl,HW.out⟩,HB.out⟩
  case round=>
   obtain⟨hrel,hb⟩:=hrel;have HBR:=hid hb;clear hb;rcases hrel with⟨rfl,hv⟩|⟨rfl,hv⟩
   ·have hlen:=T7 c.m k y 0;have hll:=HL.out;have HV:=hid hv;obtain⟨D',cap',e',h1',-,-,-,ho⟩:=hv.whole (by show 0<(I0 c.m k y 0).length;omega);have eD:=e'.symm.trans HMV.out;injection eD with e3 e4 e5
    injection e3 with e6
    injection e6 with e7
    subst e7;have ed:=ho.cell (i:=k) (by show k<(I0 c.m k y 0).length;omega);have fd:=ho.free (i:=k) (by show k<(I0 c.m k y 0).length;omega);have hDl:=ho.1;obtain⟨-,c34,-,-⟩:=hv.cells;have hM:=hv.ltM;rw[HMV.out]at c34;have HSET:Hid (VM B M r mv {c with m:=I0 c.m k y 1} (wr.setCell ⟨D',k,none⟩ (.int .u8 z0))):=hid (by
     have h2:=hv.setM1 (D:=D') (cap:=cap) (q:=k) (y:=byR y 0) (by show mv=Value.slice _ (I0 c.m k y 0).length _;rw[hlen];exact HMV.out) (by show k<(I0 c.m k y 0).length;omega) (P9 y 0);rw[HZ0.out]at h2;have e9:I0 c.m k y 1=(I0 c.m k y 0).set (k) z0:=by rw[←HZ0.out];rfl
     rw[e9];exact h2)
    have HBS:=hid (A6 HBR.out hDB (k) (.int .u8 z0));clear hlen hll ho e' e4 e5 hv;go_wp2_with fail
    go_region
    go_wp2_with fail
    go_roundw
    case rel=>first|exact⟨.inr (⟨rfl,HSET.out⟩),HBS.out⟩|exact⟨.inr (⟨rfl,HSET.out.below (Below.refl _ _).drew⟩),HBS.out.drew⟩
    case measure=>simp[intOf]
   ·have HV:=hid hv;clear hv;go_wp2_with fail
    go_ret;exact⟨HBR.out,.inl ⟨HL.out,rfl,HV.out⟩⟩
 ·exact B1R
set_option maxHeartbeats 4000000 in
theorem A8B{B M r:Nat}{mv:Value}{c:Mac}(k:Nat)(y:Int)(w:World)(h:VM B M r mv c w)(hk:k<4294967296)(y0:0≤y)(y1:y<4294967296):Calls prog 114 #[.pointer (some ⟨M,0,none⟩),.int .u32 (k:Int),.int .i64 2,.int .u32 y] w (StP B M r mv c k 2 y w):=by
 have CW:Hid (Calls prog 156 #[.pointer (some ⟨M,0,none⟩),.int .u32 (k:Int),.int .i64 2] w fun e w'=>e= .returned (.tuple #[.int .i64 (k:Int),.bool (decide (k+2≤c.m.length))])∧Dr w w'):=hid (Q6 k 2 w h hk (by decide));have H:=hid h;by_cases hl:k+2≤c.m.length
 ·rw[decide_eq_true hl]at CW;obtain⟨D,cap,hmv,hcap,hD1,hD2,hDB,-⟩:=h.whole (by omega);have hml:=h.ml;have hBM:=h.n4;have HMV:=hid hmv;have HL:=hid hl;have k0:(0:Int)≤(k:Int):=by omega
  have j0:(k:Int)<(c.m.length:Int):=by omega
  obtain⟨z0,hz0⟩:∃z,byR y 0=z:=⟨_,rfl⟩
  have HZ0:=hid hz0;have q0:y%256=z0:=by rw[←hz0];rfl
  have zb0:=P9 y 0;rw[hz0]at zb0;have kw1:IntKind.i64.wrap ((k:Int)+1)=(k:Int)+1:=by rw[IntWalk.i64_left];exact IntWalk.wrap64_in _ (by omega)
  have kn1:((k:Int)+1).toNat=k+1:=by omega
  have k1:(0:Int)≤(k:Int)+1:=by omega
  have j1:(k:Int)+1<(c.m.length:Int):=by omega
  obtain⟨z1,hz1⟩:∃z,byR y 1=z:=⟨_,rfl⟩
  have HZ1:=hid hz1;have q1:y / 256%256=z1:=by rw[←hz1];rfl
  have zb1:=P9 y 1;rw[hz1]at zb1;clear h hmv hl hz0 zb0 hz1 zb1;go_enter func114,ntmps114;go_wp2_with(go_at_call 156;(with_reducible refine CW.out.mono ?_);rintro e wa ⟨rfl,hdr⟩;have HW:=hid (H.out.below (hdr.below _));have HB:=hid (hdr.below (w:=w) B);clear hdr)
  go_loopw[11,22] (fun _ i wr=>((i= .int .i64 0∧VM B M r mv {c with m:=I0 c.m k y 0} wr)∨(i= .int .i64 1∧VM B M r mv {c with m:=I0 c.m k y 1} wr)∨(i= .int .i64 2∧VM B M r mv {c with m:=I0 c.m k y 2} wr))∧Below B w wr) (fun _ i _=>2-(intOf i).toNat)
  case atStart=>exact⟨.inl ⟨rfl,HW.out⟩,HB.out⟩
  case round=>
   obtain⟨hrel,hb⟩:=hrel;have HBR:=hid hb;clear hb;rcases hrel with⟨rfl,hv⟩|⟨rfl,hv⟩|⟨rfl,hv⟩
   ·have hlen:=T7 c.m k y 0;have hll:=HL.out;have HV:=hid hv;obtain⟨D',cap',e',h1',-,-,-,ho⟩:=hv.whole (by show 0<(I0 c.m k y 0).length;omega);have eD:=e'.symm.trans HMV.out;exact B4A
   ·have hlen:=T7 c.m k y 1;have hll:=HL.out;have HV:=hid hv;obtain⟨D',cap',e',h1',-,-,-,ho⟩:=hv.whole (by show 0<(I0 c.m k y 1).length;omega);have eD:=e'.symm.trans HMV.out;injection eD with e3 e4 e5
    injection e3 with e6
    injection e6 with e7
    subst e7;have ed:=ho.cell (i:=k+1) (by show k+1<(I0 c.m k y 1).length;omega);have fd:=ho.free (i:=k+1) (by show k+1<(I0 c.m k y 1).length;omega);have hDl:=ho.1;obtain⟨-,c34,-,-⟩:=hv.cells;have hM:=hv.ltM;rw[HMV.out]at c34;have HSET:Hid (VM B M r mv {c with m:=I0 c.m k y 2} (wr.setCell ⟨D',k+1,none⟩ (.int .u8 z1))):=hid (by
     have h2:=hv.setM1 (D:=D') (cap:=cap) (q:=k+1) (y:=byR y 1) (by show mv=Value.slice _ (I0 c.m k y 1).length _;rw[hlen];exact HMV.out) (by show k+1<(I0 c.m k y 1).length;omega) (P9 y 1);rw[HZ1.out]at h2;have e9:I0 c.m k y 2=(I0 c.m k y 1).set (k+1) z1:=by rw[←HZ1.out];rfl
     rw[e9];exact h2)
    have HBS:=hid (A6 HBR.out hDB (k+1) (.int .u8 z1));clear hlen hll ho e' e4 e5 hv;go_wp2_with fail
    go_region
    go_wp2_with fail
    go_roundw
    case rel=>first|exact⟨.inr (.inr (⟨rfl,HSET.out⟩)),HBS.out⟩|exact⟨.inr (.inr (⟨rfl,HSET.out.below (Below.refl _ _).drew⟩)),HBS.out.drew⟩
    case measure=>simp[intOf]
   ·have HV:=hid hv;clear hv;go_wp2_with fail
    go_ret;exact⟨HBR.out,.inl ⟨HL.out,rfl,HV.out⟩⟩
 ·exact B1R
set_option maxHeartbeats 4000000 in
theorem A8A{B M r:Nat}{mv:Value}{c:Mac}(k:Nat)(y:Int)(w:World)(h:VM B M r mv c w)(hk:k<4294967296)(y0:0≤y)(y1:y<4294967296):Calls prog 114 #[.pointer (some ⟨M,0,none⟩),.int .u32 (k:Int),.int .i64 4,.int .u32 y] w (StP B M r mv c k 4 y w):=by
 have CW:Hid (Calls prog 156 #[.pointer (some ⟨M,0,none⟩),.int .u32 (k:Int),.int .i64 4] w fun e w'=>e= .returned (.tuple #[.int .i64 (k:Int),.bool (decide (k+4≤c.m.length))])∧Dr w w'):=hid (Q6 k 4 w h hk (by decide));have H:=hid h;by_cases hl:k+4≤c.m.length
 ·rw[decide_eq_true hl]at CW;obtain⟨D,cap,hmv,hcap,hD1,hD2,hDB,-⟩:=h.whole (by omega);have hml:=h.ml;have hBM:=h.n4;have HMV:=hid hmv;have HL:=hid hl;have k0:(0:Int)≤(k:Int):=by omega
  have j0:(k:Int)<(c.m.length:Int):=by omega
  obtain⟨z0,hz0⟩:∃z,byR y 0=z:=⟨_,rfl⟩
  have HZ0:=hid hz0;have q0:y%256=z0:=by rw[←hz0];rfl
  have zb0:=P9 y 0;rw[hz0]at zb0;have kw1:IntKind.i64.wrap ((k:Int)+1)=(k:Int)+1:=by rw[IntWalk.i64_left];exact IntWalk.wrap64_in _ (by omega)
  have kn1:((k:Int)+1).toNat=k+1:=by omega
  have k1:(0:Int)≤(k:Int)+1:=by omega
  have j1:(k:Int)+1<(c.m.length:Int):=by omega
  obtain⟨z1,hz1⟩:∃z,byR y 1=z:=⟨_,rfl⟩
  have HZ1:=hid hz1;have q1:y / 256%256=z1:=by rw[←hz1];rfl
  have zb1:=P9 y 1;rw[hz1]at zb1;have kw2:IntKind.i64.wrap ((k:Int)+2)=(k:Int)+2:=by rw[IntWalk.i64_left];exact IntWalk.wrap64_in _ (by omega)
  have kn2:((k:Int)+2).toNat=k+2:=by omega
  have k2:(0:Int)≤(k:Int)+2:=by omega
  have j2:(k:Int)+2<(c.m.length:Int):=by omega
  obtain⟨z2,hz2⟩:∃z,byR y 2=z:=⟨_,rfl⟩
  have HZ2:=hid hz2;have q2:y / 65536%256=z2:=by rw[←hz2];rfl
  have zb2:=P9 y 2;rw[hz2]at zb2;have kw3:IntKind.i64.wrap ((k:Int)+3)=(k:Int)+3:=by rw[IntWalk.i64_left];exact IntWalk.wrap64_in _ (by omega)
  have kn3:((k:Int)+3).toNat=k+3:=by omega
  have k3:(0:Int)≤(k:Int)+3:=by omega
  have j3:(k:Int)+3<(c.m.length:Int):=by omega
  obtain⟨z3,hz3⟩:∃z,byR y 3=z:=⟨_,rfl⟩
  have HZ3:=hid hz3;have q3:y / 16777216%256=z3:=by rw[←hz3];rfl
  have zb3:=P9 y 3;rw[hz3]at zb3;have q3':y / 16777216=z3:=by omega
  clear h hmv hl hz0 zb0 hz1 zb1 hz2 zb2 hz3 zb3;go_enter func114,ntmps114;go_wp2_with(go_at_call 156;(with_reducible refine CW.out.mono ?_);rintro e wa ⟨rfl,hdr⟩;have HW:=hid (H.out.below (hdr.below _));have HB:=hid (hdr.below (w:=w) B);clear hdr)
  go_loopw[11,22] (fun _ i wr=>((i= .int .i64 0∧VM B M r mv {c with m:=I0 c.m k y 0} wr)∨(i= .int .i64 1∧VM B M r mv {c with m:=I0 c.m k y 1} wr)∨(i= .int .i64 2∧VM B M r mv {c with m:=I0 c.m k y 2} wr)∨(i= .int .i64 3∧VM B M r mv {c with m:=I0 c.m k y 3} wr)∨(i= .int .i64 4∧VM B M r mv {c with m:=I0 c.m k y 4} wr))∧Below B w wr) (fun _ i _=>4-(intOf i).toNat)
  case atStart=>exact⟨.inl ⟨rfl,HW.out⟩,HB.out⟩
  case round=>
   obtain⟨hrel,hb⟩:=hrel;have HBR:=hid hb;clear hb;rcases hrel with⟨rfl,hv⟩|⟨rfl,hv⟩|⟨rfl,hv⟩|⟨rfl,hv⟩|⟨rfl,hv⟩
   ·have hlen:=T7 c.m k y 0;have hll:=HL.out;have HV:=hid hv;obtain⟨D',cap',e',h1',-,-,-,ho⟩:=hv.whole (by show 0<(I0 c.m k y 0).length;omega);have eD:=e'.symm.trans HMV.out;exact B4A
   ·have hlen:=T7 c.m k y 1;have hll:=HL.out;have HV:=hid hv;obtain⟨D',cap',e',h1',-,-,-,ho⟩:=hv.whole (by show 0<(I0 c.m k y 1).length;omega);have eD:=e'.symm.trans HMV.out;injection eD with e3 e4 e5
    injection e3 with e6
    injection e6 with e7
    subst e7;have ed:=ho.cell (i:=k+1) (by show k+1<(I0 c.m k y 1).length;omega);have fd:=ho.free (i:=k+1) (by show k+1<(I0 c.m k y 1).length;omega);have hDl:=ho.1;obtain⟨-,c34,-,-⟩:=hv.cells;have hM:=hv.ltM;rw[HMV.out]at c34;have HSET:Hid (VM B M r mv {c with m:=I0 c.m k y 2} (wr.setCell ⟨D',k+1,none⟩ (.int .u8 z1))):=hid (by
     have h2:=hv.setM1 (D:=D') (cap:=cap) (q:=k+1) (y:=byR y 1) (by show mv=Value.slice _ (I0 c.m k y 1).length _;rw[hlen];exact HMV.out) (by show k+1<(I0 c.m k y 1).length;omega) (P9 y 1);rw[HZ1.out]at h2;have e9:I0 c.m k y 2=(I0 c.m k y 1).set (k+1) z1:=by rw[←HZ1.out];rfl
     rw[e9];exact h2)
    have HBS:=hid (A6 HBR.out hDB (k+1) (.int .u8 z1));clear hlen hll ho e' e4 e5 hv;go_wp2_with fail
    go_region
    go_wp2_with fail
    go_roundw
    case rel=>first|exact⟨.inr (.inr (.inl ⟨rfl,HSET.out⟩)),HBS.out⟩|exact⟨.inr (.inr (.inl ⟨rfl,HSET.out.below (Below.refl _ _).drew⟩)),HBS.out.drew⟩
    case measure=>simp[intOf]
   ·have hlen:=T7 c.m k y 2;have hll:=HL.out;have HV:=hid hv;obtain⟨D',cap',e',h1',-,-,-,ho⟩:=hv.whole (by show 0<(I0 c.m k y 2).length;omega);have eD:=e'.symm.trans HMV.out;injection eD with e3 e4 e5
    injection e3 with e6
    injection e6 with e7
    subst e7;have ed:=ho.cell (i:=k+2) (by show k+2<(I0 c.m k y 2).length;omega);have fd:=ho.free (i:=k+2) (by show k+2<(I0 c.m k y 2).length;omega);have hDl:=ho.1;obtain⟨-,c34,-,-⟩:=hv.cells;have hM:=hv.ltM;rw[HMV.out]at c34;have HSET:Hid (VM B M r mv {c with m:=I0 c.m k y 3} (wr.setCell ⟨D',k+2,none⟩ (.int .u8 z2))):=hid (by
     have h2:=hv.setM1 (D:=D') (cap:=cap) (q:=k+2) (y:=byR y 2) (by show mv=Value.slice _ (I0 c.m k y 2).length _;rw[hlen];exact HMV.out) (by show k+2<(I0 c.m k y 2).length;omega) (P9 y 2);rw[HZ2.out]at h2;have e9:I0 c.m k y 3=(I0 c.m k y 2).set (k+2) z2:=by rw[←HZ2.out];rfl
     rw[e9];exact h2)
    have HBS:=hid (A6 HBR.out hDB (k+2) (.int .u8 z2));clear hlen hll ho e' e4 e5 hv;go_wp2_with fail
    go_region
    go_wp2_with fail
    go_roundw
    case rel=>first|exact⟨.inr (.inr (.inr (.inl ⟨rfl,HSET.out⟩))),HBS.out⟩|exact⟨.inr (.inr (.inr (.inl ⟨rfl,HSET.out.below (Below.refl _ _).drew⟩))),HBS.out.drew⟩
    case measure=>simp[intOf]
   ·have hlen:=T7 c.m k y 3;have hll:=HL.out;have HV:=hid hv;obtain⟨D',cap',e',h1',-,-,-,ho⟩:=hv.whole (by show 0<(I0 c.m k y 3).length;omega);have eD:=e'.symm.trans HMV.out;injection eD with e3 e4 e5
    injection e3 with e6
    injection e6 with e7
    subst e7;have ed:=ho.cell (i:=k+3) (by show k+3<(I0 c.m k y 3).length;omega);have fd:=ho.free (i:=k+3) (by show k+3<(I0 c.m k y 3).length;omega);have hDl:=ho.1;obtain⟨-,c34,-,-⟩:=hv.cells;have hM:=hv.ltM;rw[HMV.out]at c34;have HSET:Hid (VM B M r mv {c with m:=I0 c.m k y 4} (wr.setCell ⟨D',k+3,none⟩ (.int .u8 z3))):=hid (by
     have h2:=hv.setM1 (D:=D') (cap:=cap) (q:=k+3) (y:=byR y 3) (by show mv=Value.slice _ (I0 c.m k y 3).length _;rw[hlen];exact HMV.out) (by show k+3<(I0 c.m k y 3).length;omega) (P9 y 3);rw[HZ3.out]at h2;have e9:I0 c.m k y 4=(I0 c.m k y 3).set (k+3) z3:=by rw[←HZ3.out];rfl
     rw[e9];exact h2)
    have HBS:=hid (A6 HBR.out hDB (k+3) (.int .u8 z3));clear hlen hll ho e' e4 e5 hv;go_wp2_with fail
    go_region
    go_wp2_with fail
    go_roundw
    case rel=>first|exact⟨.inr (.inr (.inr (.inr (⟨rfl,HSET.out⟩)))),HBS.out⟩|exact⟨.inr (.inr (.inr (.inr (⟨rfl,HSET.out.below (Below.refl _ _).drew⟩)))),HBS.out.drew⟩
    case measure=>simp[intOf]
   ·have HV:=hid hv;clear hv;go_wp2_with fail
    go_ret;exact⟨HBR.out,.inl ⟨HL.out,rfl,HV.out⟩⟩
 ·exact B1R
theorem A0U{B M r:Nat}{mv:Value}{c:Mac}(k:Nat)(y:Int)(w:World)(h:VM B M r mv c w)(hk:k<4294967296)(y0:0≤y)(y1:y<4294967296)(n:Nat)(hn:n=1∨n=2∨n=4):Calls prog 114 #[.pointer (some ⟨M,0,none⟩),.int .u32 (k:Int),.int .i64 (n:Int),.int .u32 y] w (StP B M r mv c k n y w):=by
 rcases hn with rfl|rfl|rfl
 ·exact A8C k y w h hk y0 y1
 ·exact A8B k y w h hk y0 y1
 ·exact A8A k y w h hk y0 y1
def R0(c:Mac)(d:Nat)(n:Int):Mac:={c with r:=(if 0<d then c.r.set d n else c.r),a:=(c.a+4)%4294967296}
set_option maxHeartbeats 2000000 in
theorem S9{B M r:Nat}{mv:Value}{c:Mac}(d:Nat)(n:Int)(w:World)(h:VM B M r mv c w)(hd:d<32)(hn:0≤n∧n<4294967296):Calls prog 111 #[.pointer (some ⟨M,0,none⟩),.int .i64 (d:Int),.int .u32 n] w fun e w'=>e= .returned (.tuple #[])∧VM B M r mv (R0 c d n) w'∧Below B w w':=by
 have ha:0≤(c.a+4)%4294967296∧(c.a+4)%4294967296<4294967296:=by omega
 have hBM:=h.n4;have hM:=h.ltM;obtain⟨⟨c33,f33⟩,-,-,-⟩:=h.cells;by_cases h0:0<d
 ·have t0:decide (0<d)=true:=by simp;omega
  obtain⟨cr,fr⟩:=h.reg hd;have HF:Hid (VM B M r mv (R0 c d n) ((w.setCell ⟨M,d,none⟩ (.int .u32 n)).setCell ⟨M,33,none⟩ (.int .u32 ((c.a+4)%4294967296)))):=hid (by
   have e:R0 c d n={({c with r:=c.r.set d n}:Mac)with a:=(c.a+4)%4294967296}:=by unfold R0;rw[if_pos h0]
   rw[e];exact(h.setR hd hn).setA ha)
  have HB:=hid (A6 (A6 (Below.refl B w) hBM d (.int .u32 n)) hBM 33 (.int .u32 ((c.a+4)%4294967296)));have hd0:(0:Int)≤(d:Int):=by omega
  have hd1:(d:Int)<32:=by omega
  have hne:¬d=33:=by omega
  have hne2:¬33=d:=by omega
  clear h ha h0 hd hn;go_enter func111,ntmps111;go_wp2_with fail
  exact bodyPost_end (v:=.tuple #[]) (by simp[results,results111,go_sem]) rfl ⟨rfl,HF.out,HB.out⟩
 ·have t0:decide (0<d)=false:=by simp;omega
  have HF:Hid (VM B M r mv (R0 c d n) (w.setCell ⟨M,33,none⟩ (.int .u32 ((c.a+4)%4294967296)))):=hid (by
   have e:R0 c d n={c with a:=(c.a+4)%4294967296}:=by unfold R0;rw[if_neg h0]
   rw[e];exact h.setA ha)
  have HB:=hid (A6 (Below.refl B w) hBM 33 (.int .u32 ((c.a+4)%4294967296)));clear h ha h0 hd hn;go_enter func111,ntmps111;go_wp2_with fail
  exact bodyPost_end (v:=.tuple #[]) (by simp[results,results111,go_sem]) rfl ⟨rfl,HF.out,HB.out⟩
def N0(c:Mac)(k:Int):Int:=c.r.getD k.toNat 0
def exV(x:Rv)(c:Mac):Option Mac:=
 let f:=fmR x.o
 let n:=x.i%4294967296
 if f=0 then some (R0 c x.d.toNat (M9 x.o (N0 c x.a) (N0 c x.b)))
 else if f=1∨f=2 then some (R0 c x.d.toNat (M9 x.o (N0 c x.a) n))
 else if f=3 then some (R0 c x.d.toNat (n*4096%4294967296))
 else if f=4 then(if((N0 c x.a+n)%4294967296).toNat+szR x.o≤c.m.length then some (R0 c x.d.toNat (Y6 c.m ((N0 c x.a+n)%4294967296).toNat (szR x.o)))else none)
 else if f=5 then(if((N0 c x.a+n)%4294967296).toNat+szR x.o≤c.m.length then some {c with m:=I0 c.m ((N0 c x.a+n)%4294967296).toNat (N0 c x.b) (szR x.o),a:=(c.a+4)%4294967296}else none)
 else if f=6 then some {c with a:=if tkR x.o (N0 c x.a) (N0 c x.b)=true then(c.a+n)%4294967296 else(c.a+4)%4294967296}
 else if f=7 then some {R0 c x.d.toNat ((c.a+4)%4294967296)with a:=(c.a+n)%4294967296}
 else if f=8 then some {R0 c x.d.toNat ((c.a+4)%4294967296)with a:=bits .andNot .u32 ((N0 c x.a+n)%4294967296) 1}
 else some {c with e:=if x.o=40 then 1 else 2}
def G4(c:Mac):Option Mac:=
 if c.a.toNat+4≤c.m.length then(if c.a%4=0 then(match P8 (w4 c.m c.a.toNat)with
  |some x=>exV x c
  |none=>none)else none)else none
def SvP(B M r:Nat)(mv:Value)(c:Mac)(o:Option Mac)(w:World)(e:Ending)(w':World):Prop:=
 e= .returned (.bool o.isSome)∧VM B M r mv (o.getD c) w'∧Below B w w'
theorem SvP.no{B M r:Nat}{mv:Value}{c:Mac}{w w':World}{o:Option Mac}(ho:o=none)(h:VM B M r mv c w')(hb:Below B w w'):SvP B M r mv c o w (.returned (.bool false)) w':=by
 subst ho;exact⟨rfl,h,hb⟩
theorem SvP.yes{B M r:Nat}{mv:Value}{c c':Mac}{w w':World}{o:Option Mac}(ho:o=some c')(h:VM B M r mv c' w')(hb:Below B w w'):SvP B M r mv c o w (.returned (.bool true)) w':=by
 subst ho;exact⟨rfl,h,hb⟩
set_option maxHeartbeats 2000000 in
theorem A5t{B M r:Nat}{mv:Value}{c:Mac}(w:World)(h:VM B M r mv c w)(hB:B≤w.heap.size)(hl:¬c.a.toNat+4≤c.m.length):Calls prog 81 #[.pointer (some ⟨M,0,none⟩)] w (SvP B M r mv c (G4 c) w):=by
 have e:G4 c=none:=by unfold G4;rw[if_neg hl]
 rw[e];have H:=hid h;obtain⟨⟨c33,f33⟩,-,-,c36⟩:=h.cells;have hab:=h.ab;have hM:=h.ltM;have ek:((c.a.toNat:Nat):Int)=c.a:=by omega
 have CL0:=J8 c.a.toNat w h (by omega) 4 (by simp);rw[ek]at CL0;have CL:Hid (Calls prog 110 #[.pointer (some ⟨M,0,none⟩),.int .u32 c.a,.int .i64 4] w fun e w'=>e= .returned (.tuple #[.int .u32 0,.bool false])∧Dr w w'):=hid (by
  have:=CL0;unfold ldP at this;rw[if_neg hl]at this;exact this)
 clear CL0 hl e hab h ek;go_enter func81,ntmps81;go_wp2_with(go_at_call 110;(with_reducible refine CL.out.mono ?_);rintro e wa ⟨rfl,hdr⟩;have HA:=hid (H.out.below (hdr.below _));have HB:=hid (hdr.below (w:=w) B);clear hdr)
 go_ret;exact SvP.no rfl HA.out HB.out
set_option maxHeartbeats 2000000 in
theorem A5s{B M r:Nat}{mv:Value}{c:Mac}(w:World)(h:VM B M r mv c w)(hB:B≤w.heap.size)(hl:c.a.toNat+4≤c.m.length)(h4:¬c.a%4=0):Calls prog 81 #[.pointer (some ⟨M,0,none⟩)] w (SvP B M r mv c (G4 c) w):=by
 have e:G4 c=none:=by unfold G4;rw[if_pos hl,if_neg h4]
 rw[e];have H:=hid h;obtain⟨⟨c33,f33⟩,-,-,c36⟩:=h.cells;have hab:=h.ab;have hM:=h.ltM;have ek:((c.a.toNat:Nat):Int)=c.a:=by omega
 have CL0:=J8 c.a.toNat w h (by omega) 4 (by simp);rw[ek]at CL0;obtain⟨V,hV⟩:∃V,w4 c.m c.a.toNat=V:=⟨_,rfl⟩
 have CL:Hid (Calls prog 110 #[.pointer (some ⟨M,0,none⟩),.int .u32 c.a,.int .i64 4] w fun e w'=>e= .returned (.tuple #[.int .u32 V,.bool true])∧Dr w w'):=hid (by
  have:=CL0;unfold ldP at this;rw[if_pos hl]at this;rw[←hV];exact this)
 have gt:c.a.tmod 4=c.a%4:=Int.tmod_eq_emod_of_nonneg hab.1;have g:(c.a.tmod 4==0)=false:=by rw[gt];simpa using h4
 have g2:(c.a.tmod 4 !=0)=true:=by simp[bne,g]
 clear gt;clear CL0 hl e hab h ek hV;go_enter func81,ntmps81;go_wp2_with(go_at_call 110;(with_reducible refine CL.out.mono ?_);rintro e wa ⟨rfl,hdr⟩;have c33':=A0 (hdr.below w.heap.size) hM c33;have HA:=hid (H.out.below (hdr.below _));have HB:=hid (hdr.below (w:=w) B);clear hdr c33 f33 c36)
 go_ret;exact SvP.no rfl HA.out HB.out
set_option maxHeartbeats 2000000 in
theorem A5v{B M r:Nat}{mv:Value}{c:Mac}(w:World)(h:VM B M r mv c w)(hB:B≤w.heap.size)(hl:c.a.toNat+4≤c.m.length)(h4:c.a%4=0)(hd:P8 (w4 c.m c.a.toNat)=none):Calls prog 81 #[.pointer (some ⟨M,0,none⟩)] w (SvP B M r mv c (G4 c) w):=by
 have e:G4 c=none:=by unfold G4;rw[if_pos hl,if_pos h4,hd]
 rw[e];have H:=hid h;obtain⟨⟨c33,f33⟩,-,-,c36⟩:=h.cells;have hab:=h.ab;have hM:=h.ltM;have ek:((c.a.toNat:Nat):Int)=c.a:=by omega
 have CL0:=J8 c.a.toNat w h (by omega) 4 (by simp);rw[ek]at CL0;have hvb:=Q9 h.mb c.a.toNat;have CD:Hid (∀wk,DecIs wk r 39→Calls prog 57 #[.map (some r),.int .u32 (w4 c.m c.a.toNat)] wk fun e w'=>e= .returned (.tuple #[.agg #[.int .i64 0,.int .i64 0,.int .i64 0,.int .i64 0,.int .i64 0],.bool false])∧Below wk.heap.size wk w'):=hid (fun wk hk=>by
  have:=I4 (w4 c.m c.a.toNat) hvb.1 hvb.2 r wk hk;unfold dcV at this;rw[hd]at this;exact this)
 obtain⟨V,hV⟩:∃V,w4 c.m c.a.toNat=V:=⟨_,rfl⟩
 rw[hV]at CD;have CL:Hid (Calls prog 110 #[.pointer (some ⟨M,0,none⟩),.int .u32 c.a,.int .i64 4] w fun e w'=>e= .returned (.tuple #[.int .u32 V,.bool true])∧Dr w w'):=hid (by
  have:=CL0;unfold ldP at this;rw[if_pos hl]at this;rw[←hV];exact this)
 have gt:c.a.tmod 4=c.a%4:=Int.tmod_eq_emod_of_nonneg hab.1;have g2:(c.a.tmod 4 !=0)=false:=by rw[gt,h4];rfl
 clear CL0 hl e hab h ek hV hd hvb gt;go_enter func81,ntmps81;go_wp2_with(first|(go_at_call 110;(with_reducible refine CL.out.mono ?_);rintro e wa ⟨rfl,hdr⟩;have c33':=A0 (hdr.below w.heap.size) hM c33;have c36':=A0 (hdr.below w.heap.size) hM c36;have HA:=hid (H.out.below (hdr.below _));have HB:=hid (hdr.below (w:=w) B);have hsa:=(hdr.below (w:=w) B).size;clear hdr c33 f33 c36)|(go_at_call 57;(with_reducible refine(CD.out _ HA.out.d).mono ?_);rintro e wb ⟨rfl,hbb⟩;have HV:=hid (HA.out.below hbb);have HBB:=hid (HB.out.trans (hbb.mono (by omega)));have hsb:=hbb.size;clear hbb))
 go_ret;exact SvP.no rfl (HV.out.below ((Below.refl _ _).alloc (Nat.le_refl _) _)) (HBB.out.trans ((Below.refl _ _).alloc (by omega) _))
end Go.Proofs.YtajljbmeaeeknaaGreat
