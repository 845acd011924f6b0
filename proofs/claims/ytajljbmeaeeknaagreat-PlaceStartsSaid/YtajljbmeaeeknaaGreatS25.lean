/- -/
import Derived.BigRegion
import Derived.BigQuiet
import Derived.Test.YtajljbmeaeeknaaGreatS4
import Derived.Test.YtajljbmeaeeknaaGreatS12
import Derived.Test.YtajljbmeaeeknaaGreatS20
import Derived.Test.YtajljbmeaeeknaaGreatS23
import Derived.Test.YtajljbmeaeeknaaGreatS24
open Go.Proofs.Tryz
open Go.Lib (hid)
set_option maxHeartbeats 1000000
set_option maxRecDepth 100000
namespace Go.Proofs.YtajljbmeaeeknaaGreat
open Go.RowKit Go.Maps
set_option linter.unusedVariables false
set_option linter.unusedSimpArgs false
theorem A6E{base:Int}{l:List Ob}(h:H9 base l≠0):Q2 base l=H9 base l:=if_pos h
theorem A6F{base:Int}{l:List Ob}{st:Im}(h:H9 base l=0)(hs:J0 base l=some st)(hm:Q1 l st.m l.length=true):Q2 base l=4:=by
 unfold Q2;rw[if_neg (by simpa using h),hs];simp only;rw[if_pos hm]
theorem A6G{base:Int}{l:List Ob}{st:Im}(h:H9 base l=0)(hs:J0 base l=some st)(hm:Q1 l st.m l.length=false)(hz:32768<base+st.z):Q2 base l=3:=by
 unfold Q2;rw[if_neg (by simpa using h),hs];simp only;rw[hm,if_neg (by simp),if_pos hz]
theorem A6H{base:Int}{l:List Ob}{st:Im}(h:H9 base l=0)(hs:J0 base l=some st)(hm:Q1 l st.m l.length=false)(hz:¬32768<base+st.z):Q2 base l=0:=by
 unfold Q2;rw[if_neg (by simpa using h),hs];simp only;rw[hm,if_neg (by simp),if_neg hz]
theorem A3a{l:List Ob}{m:List (Int×Int)}{j k:Nat}(hj:j<l.length)(hk:k<(l.getD j default).t.length)(h:K7 m ((l.getD j default).t.getD k default).n=none):Q1 l m l.length=true:=by
 unfold Q1;refine A0K hj hj ?_;refine List.any_eq_true.2 ⟨_,I7 hk,?_⟩;rw[h];rfl
theorem A1t{l:List Ob}{m:List (Int×Int)}{j:Nat}(hj:j<l.length)(h0:Q1 l m j=false)(h:(l.getD j default).t.any (fun x=>(K7 m x.n).isNone)=false):Q1 l m (j+1)=false:=T7 hj h0 h
theorem A2e{o:Ob}(h:F7 o=0):∀x∈o.t,(0≤x.a∧x.a≤o.b.length-4)∧(x.k=0∨x.k=1)∧(-2147483648≤x.n∧x.n≤2147483647)∧-2147483648≤x.p∧x.p≤2147483647:=by
 intro x hx;by_cases g:8192<o.b.length∨64<o.s.length∨64<o.t.length
 ·rw[P3 g]at h;omega
 ·cases g2:o.s.any (V9 o.b.length)with
  |true=>rw[u7 g g2]at h;omega
  |false=>
   cases g3:M2 P2 o.b.length o.t o.t.length with
   |true=>rw[u6 g g2 g3]at h;omega
   |false=>
    have:=A2v g3 (Nat.le_refl _) x (by rw[List.take_length];exact hx);obtain⟨h1,h2,h3,h4,h5⟩:=A3z this;exact⟨⟨h1,h2⟩,h3,h4,h5⟩
theorem A4u{m:List (Int×Int)}{n a lo hi:Int}(h:∀q∈m,lo≤q.2∧q.2≤hi)(h1:K7 m n=some a):lo≤a∧a≤hi:=by
 unfold K7 at h1;cases hf:m.find? (fun q=>q.1==n)with
 |none=>rw[hf]at h1;cases h1
 |some q=>
  rw[hf]at h1;cases h1;exact h q (List.mem_of_find?_eq_some hf)
def LinkP(base:Int)(l:List Ob)(w:World)(e:Ending)(w':World):Prop:=
 ∃v,e= .returned (.tuple #[v,.int .i64 (Q2 base l)])∧(Q2 base l≠0→v= .slice none 0 0)∧(Q2 base l=0→∀st,J0 base l=some st→Ints .u8 w' v (K8 base l st l.length))∧Below w.heap.size w w'
theorem LinkP.no{base:Int}{l:List Ob}{w w':World}{n:Int}(h:Q2 base l=n)(hn:n≠0)(hb:Below w.heap.size w w'):LinkP base l w (.returned (.tuple #[.slice none 0 0,.int .i64 n])) w':=
 ⟨_,by rw[h],fun _=>rfl,fun h0=>absurd (h.symm.trans h0) hn,hb⟩
theorem A4T{p:Prop}(h:p:=by
 have hNb: -200000000000≤N∧N≤200000000000:=by omega
 clear hN hk1
 go_loopw[113] (fun i wr=>∃c:Nat,c≤4∧i= .int .i64 c∧OInts .u8 wr D (A0b out (pn+yan) N c)∧Below W2.heap.size W2 wr) (fun i _=>4-(intOf i).toNat)
 case atStart=>exact⟨0,by omega,rfl,HOq.out,HBq.out⟩
 case round=>
  obtain⟨c5,hc5,rfl,ho5,hb5⟩:=hrel;have HO5:=hid ho5;have HB5:=hid hb5;by_cases hcl:c5<4
  ·have hlen5:(A0b out (pn+yan) N c5).length=zn:=by rw[R0,hL1.out]
   have d1:=ho5.cell (i:=pn+yan+c5) (by rw[hlen5];omega);have f1:=ho5.free (i:=pn+yan+c5) (by rw[hlen5];omega);have HS5:Hid (OInts .u8 (wr.setCell ⟨D,pn+yan+c5,none⟩ (.int .u8 (k9 N c5))) D (A0b out (pn+yan) N (c5+1))):=ho5.set (i:=pn+yan+c5) (by rw[hlen5];omega) (k9 N c5);have hDW:W2.heap.size≤D:=by omega
   have hi0:(0:Int)≤(pn:Int)+yan:=by omega
   have hi1:(pn:Int)+yan+3<(zn:Int):=by omega
   clear ho5 hb5 hlen5;have hcc:c5=0∨c5=1∨c5=2∨c5=3:=by omega
   generalize hgd:(A0b out (pn+yan) N c5).getD (pn+yan+c5) 0=gd at d1;clear hgd;rcases hcc with rfl|rfl|rfl|rfl
   ·simp only[Nat.add_zero]at d1 f1 HS5;have hv:k9 N 0=N%256:=by unfold k9;simp
    rw[hv]at HS5;go_wp2_with fail
    go_roundw
    case rel=>exact⟨1,by omega,by go_num,HS5.out,A9 HB5.out hDW _ _⟩
    case measure=>simp[intOf]
   ·have hv:k9 N 1=N%4294967296 / 256%256:=by
     unfold k9;rw[show(2:Int)^(8*1)=256 from rfl];omega
    rw[hv]at HS5;go_wp2_with fail
    go_roundw
    case rel=>exact⟨2,by omega,by go_num,HS5.out,A9 HB5.out hDW _ _⟩
    case measure=>simp[intOf]
   ·have hv:k9 N 2=N%4294967296 / 65536%256:=by
     unfold k9;rw[show(2:Int)^(8*2)=65536 from rfl];omega
    rw[hv]at HS5;go_wp2_with fail
    go_roundw
    case rel=>exact⟨3,by omega,by go_num,HS5.out,A9 HB5.out hDW _ _⟩
    case measure=>simp[intOf]
   ·have hv:k9 N 3=N%4294967296 / 16777216:=by
     unfold k9;rw[show(2:Int)^(8*3)=16777216 from rfl];omega
    rw[hv]at HS5;go_wp2_with fail
    go_roundw
    case rel=>exact⟨4,by omega,by go_num,HS5.out,A9 HB5.out hDW _ _⟩
    case measure=>simp[intOf]
  ·obtain rfl:c5=4:=by omega
   have HF:Hid (OInts .u8 wr D (M3 base sm pn (O7 (K8 base l ⟨sp,zn,sm⟩ j) pn oj.b) (oj.t.take (k+1)))):=by
    show OInts .u8 wr D _
    rw[hS.out,hw.out];exact ho5
   clear ho5 hb5;go_wp2_with fail
   go_roundw
   case rel=>exact⟨k+1,by omega,by go_num,HF.out,HB5.out⟩
   case measure=>simp[intOf];omega
 ):p:=h
set_option maxHeartbeats 8000000 in
theorem A3W(l:List Ob)(lv:Value)(base:Int)(w:World)(h:Obs w lv l)(hwf:∀o∈l,ObF o):Calls prog 34 #[lv,.int .i64 base] w fun e w'=>LinkP base l w e w':=by
 by_cases hE:H9 base l=0
 rotate_left
 ·have C:=hid (b7 h hwf hE);have HQ:=hid (A6E hE);have HN:=hid hE;have hne:(H9 base l !=0)=true:=by simpa[bne]using hE
  clear h hwf hE;generalize H9 base l=ev at*
  go_enter func34,ntmps34;go_wp2_with(go_at_call 70;with_reducible refine C.out.mono ?_;rintro e w1 ⟨rfl,hb⟩;have HB:=hid (hb.alloc hb.size (.cells #[.slice none 0 0,.int .i64 0,.map none] 145));clear hb)
  refine bodyPost_ret (v:=.tuple #[.slice none 0 0,.int .i64 ev]) (by simp[results,results34,go_sem]) rfl (LinkP.no HQ.out HN.out HB.out)
 ·obtain⟨st,hst,hl4,hv,hb0,hb1,hb4⟩:=s4 hE;obtain⟨z0,z1,hpl⟩:=A2u hl4 hv hst;have C:=hid (b6 h hwf hE hst);have HE:=hid hE;have HST:=hid hst;have HV:=hid hv;have HVS:=hid (s3 (base:=base) (l:=l) (j:=l.length) (st:=st) hv (Nat.le_refl _) (by rw[List.take_length];exact hst)).2;have HP:=hid (b8 (base:=base) (l:=l) (j:=l.length) (st:=st) (Nat.le_refl _) (by rw[List.take_length];exact hst)).2.2;obtain⟨a,c,rfl,hc1,hc2,hrow⟩:=h.shape;have HR:=hid hrow;clear h hwf hE hst hv hrow;obtain⟨sp,sz,sm⟩:=st;simp only at z0 z1 hpl;obtain⟨zn,rfl⟩:=Int.eq_ofNat_of_zero_le z0;have HPL:=hid hpl;clear hpl;go_enter func34,ntmps34;go_wp2_with(go_at_call 70;with_reducible refine C.out.mono ?_;rintro e w1 ⟨va,vc,M,rfl,hi,hm,hb⟩;have HI1:=hid hi;have HM1:=hid hm;have HB1:=hid hb;clear hi hm hb)
  generalize hW2:w1.alloc (.cells #[.slice va sp.length vc,.int .i64 zn,.map (some M)] 145)=W2 at*
  have B2:Hid (Below w1.heap.size w1 W2):=by rw[←hW2];exact(Below.refl _ _).alloc (Nat.le_refl _) _
  have i0:W2.cell? ⟨w1.heap.size,0,none⟩=some (.slice va sp.length vc):=by rw[←hW2];simp[go_sem]
  have i1:W2.cell? ⟨w1.heap.size,1,none⟩=some (.int .i64 zn):=by rw[←hW2];simp[go_sem]
  have i2:W2.cell? ⟨w1.heap.size,2,none⟩=some (.map (some M)):=by rw[←hW2];simp[go_sem]
  have hs2:w1.heap.size<W2.heap.size:=by rw[←hW2];simp
  have hs1:=HB1.out.size;have HW2:Hid (Below w.heap.size w W2):=B7 HB1.out hs1 B2.out;have HI2:Hid (Ints .i64 W2 (.slice va sp.length vc) sp):=HI1.out.stays B2.out;have HM2:Hid (MapIs prog 3 W2 M (g9 sm)):=HM1.out.below B2.out;have I0:=hid i0;have I1:=hid i1;have I2:=hid i2;clear hW2 HI1 HM1 i0 i1 i2
  go_loopw[33] (fun i wr=>∃j:Nat,j≤l.length∧i= .int .i64 j∧Hid (Q1 l sm j=false)∧Below W2.heap.size W2 wr) (fun i _=>l.length-(intOf i).toNat)
  case atStart=>exact⟨0,Nat.zero_le _,rfl,rfl,Below.refl _ _⟩
  case round=>
   obtain⟨j,hj,rfl,hno,hb⟩:=hrel;have HB:=hid hb;have hbs:=hb.size;by_cases hjl:j<l.length
   ·obtain⟨b,q,ea,hbl,vb,vs,vt,y0,y1,y2,hx⟩:=HR.out j hjl;subst ea;obtain⟨ba,cb,rfl,_,_⟩:=hx.1.shape2;obtain⟨sa,cs,rfl,_⟩:=hx.2.1.shape;obtain⟨ta,ct,rfl,ht1,ht2,ht3⟩:=hx.2.2.shape;have hwr:Below w.heap.size w wr:=B7 HW2.out (by omega) hb;have x0:=A7 hwr hbl y0;have x1:=A7 hwr hbl y1;have x2:=A7 hwr hbl y2;have HT3:=hid ht3;have HOV:=hid (HV.out _ (I7 hjl));generalize hlo:l.getD j default=oj at*
    have HLO:=hid hlo;have hne:¬b=wr.heap.size:=by omega
    have hnM:¬M=wr.heap.size:=by have:=HM2.out.1;omega
    obtain⟨Wb,hWb⟩:∃W,wr.alloc (.cells #[.slice ba oj.b.length cb,.slice sa oj.s.length cs,.slice ta oj.t.length ct] 32)=W:=⟨_,rfl⟩
    have BB:Hid (Below wr.heap.size wr Wb):=by rw[←hWb];exact(Below.refl _ _).alloc (Nat.le_refl _) _
    have c2:Wb.cell? ⟨wr.heap.size,2,none⟩=some (.slice ta oj.t.length ct):=by rw[←hWb];simp[go_sem]
    have hsb:wr.heap.size<Wb.heap.size:=by rw[←hWb];simp
    have HBb:Hid (Below W2.heap.size W2 Wb):=B7 hb hbs BB.out;clear hlo hx y0 y1 y2 ht3 hb hwr;go_wp2_with fail
    clear x0 x1 x2 c2 hWb;obtain⟨wz,rfl⟩:∃wz:World,wz=wr:=⟨_,rfl⟩
    go_loopw[40] (fun i wr=>∃k:Nat,k≤oj.t.length∧i= .int .i64 k∧Hid ((oj.t.take k).any (fun x=>(K7 sm x.n).isNone)=false)∧Below W2.heap.size W2 wr) (fun i _=>oj.t.length-(intOf i).toNat)
    case atStart=>exact⟨0,Nat.zero_le _,rfl,rfl,HBb.out⟩
    case round=>
     obtain⟨k,hk,rfl,hnk,hb⟩:=hrel;have HBk:=hid hb;have hks:=hb.size;by_cases hkl:k<oj.t.length
     ·obtain⟨b',q',ea,hbl',u0,u1,u2,u3⟩:=g8 HT3.out (B7 HW2.out (by omega) hb) k hkl;subst ea;have hyb:=A2e HOV.out _ (I7 hkl);generalize hy:oj.t.getD k default=y at*
      have HY:=hid hy;clear hy;obtain⟨ya,yk,yn,yp⟩:=y;simp only at u0 u1 u2 u3 hyb;have hne3:¬b'=wr.heap.size:=by omega
      obtain⟨Wc,hWc⟩:∃W,wr.alloc (.cells #[.int .i64 ya,.int .i64 yk,.int .i64 yn,.int .i64 yp] 150)=W:=⟨_,rfl⟩
      have BC:Hid (Below wr.heap.size wr Wc):=by rw[←hWc];exact(Below.refl _ _).alloc (Nat.le_refl _) _
      have v2:Wc.cell? ⟨wr.heap.size,2,none⟩=some (.int .i64 yn):=by rw[←hWc];simp[go_sem]
      have HBc:Hid (Below W2.heap.size W2 Wc):=B7 hb hks BC.out;have m2:=A7 HBc.out hs2 I2.out;have hkey:=V0 (n:=yn) ⟨by omega,by omega⟩;clear hb;cases hlm:K7 sm yn with
      |none=>
       have hlk:=R7 N8 underlying143 (z:=.int .i64 0) (fun w=>by kernel_rfl) (HM2.out.below HBc.out) hkey (Q6 (j4 hlm));have HQ:=hid (A6F HE.out HST.out (A3a (m:=sm) hjl (by rw[HLO.out];exact hkl) (by rw[HLO.out,HY.out];exact hlm)));clear hlm hkey;go_wp2_with fail
       refine bodyPost_ret (v:=.tuple #[.slice none 0 0,.int .i64 4]) (by simp[results,results34,go_sem]) rfl (LinkP.no HQ.out (by decide) (B7 HW2.out (by omega) HBc.out))
      |some av=>
       have hlk:=P7 N8 underlying143 (HM2.out.below HBc.out) hkey (U2 hlm);have HN:Hid ((oj.t.take (k+1)).any (fun x=>(K7 sm x.n).isNone)=false):=T7 hkl hnk.out (by rw[HY.out];simp only[hlm];rfl);clear hlm hkey;go_wp2_with fail
       go_roundw
       case rel=>exact⟨k+1,by omega,by go_num,HN.out,HBc.out⟩
       case measure=>simp[intOf];omega
     ·obtain rfl:k=oj.t.length:=by omega
      have HN:Hid (Q1 l sm (j+1)=false):=A1t hjl hno.out (by rw[HLO.out];have:=hnk.out;rwa[List.take_length]at this);clear hb;go_wp2_with fail
      go_roundw
      case rel=>exact⟨j+1,by omega,by go_num,HN.out,HBk.out⟩
      case measure=>simp[intOf];omega
   ·obtain rfl:j=l.length:=by omega
    have HMS:=hid hno.out;have j1:=A7 hb hs2 I1.out;obtain⟨wo,rfl⟩:∃wo:World,wo=wr:=⟨_,rfl⟩
    have HWo:Hid (Below w.heap.size w wo):=B7 HW2.out (by omega) hb;cases g:decide (32768<base+(zn:Int))
    case true=>
     have HQ:=hid (A6G HE.out HST.out HMS.out (of_decide_eq_true g));clear hb;go_wp2_with fail
     refine bodyPost_ret (v:=.tuple #[.slice none 0 0,.int .i64 3]) (by simp[results,results34,go_sem]) rfl (LinkP.no HQ.out (by decide) HWo.out)
    case false=>
     have HQ:=hid (A6H HE.out HST.out HMS.out (of_decide_eq_false g));have g':=of_decide_eq_false g;have hzn:zn≤32768:=by omega
     obtain⟨ii0,hii0,hzz0,hzz1,hzz2⟩:=info_parts A0q;clear hb;go_wp2_with(at_make;refine wpList_make_full _ rfl _ _ 28 rfl (wo.heap.size) 5 ii0 (.int .u8 0) 1 underlying28 hii0 hzz0 hzz1 .i64 .i64 _ _ zn rfl rfl rfl rfl ?d1 ?d2 ?d3 ?_)
     case d1=>first|omega|(rw[hzz2];omega)
     case d2=>first|omega|exact Nat.le_refl _|(unfold maxLen;omega)
     intro w3 hown hgr;have hO:OInts .u8 w3 wo.heap.size (K8 base l ⟨sp,zn,sm⟩ 0):=(OInts.made hown:OInts .u8 w3 wo.heap.size (List.replicate zn 0))
     have hb3:=A2Y hgr;have HO3:=hid hO;have HB3:Hid (Below W2.heap.size W2 w3):=B7 HB.out hbs hb3;clear hown hgr hO hb3;generalize hD:wo.heap.size=D at*
     go_wp2_with fail
     go_loopw[66] (fun i wr=>∃j:Nat,j≤l.length∧i= .int .i64 j∧OInts .u8 wr D (K8 base l ⟨sp,zn,sm⟩ j)∧Below W2.heap.size W2 wr) (fun i _=>l.length-(intOf i).toNat)
     case atStart=>exact⟨0,Nat.zero_le _,rfl,HO3.out,HB3.out⟩
     case round=>
      obtain⟨j,hj,rfl,ho,hb⟩:=hrel;have HO:=hid ho;have HB':=hid hb;have hbs':=hb.size;by_cases hjl':j<l.length
      ·obtain⟨b,q,ea,hbl,vb,vs,vt,y0,y1,y2,hx⟩:=HR.out j hjl';subst ea;obtain⟨ba,cb,rfl,_,_⟩:=hx.1.shape2;obtain⟨sa,cs,rfl,_⟩:=hx.2.1.shape;obtain⟨ta,ct,rfl,ht1,ht2,ht3⟩:=hx.2.2.shape;have hwr:Below w.heap.size w wr:=B7 HW2.out (by omega) hb;have x0:=A7 hwr hbl y0;have x1:=A7 hwr hbl y1;have x2:=A7 hwr hbl y2;have HT3:=hid ht3;have HBY:=hid (hx.1.stays hwr);have HOV:=hid (HV.out _ (I7 hjl'));have hpj:=HP.out j hjl';generalize hlo:l.getD j default=oj at*
       have HLO:=hid hlo;obtain⟨vap,cp,ep,hp1,_,_,hp4⟩:=HI2.out;cases ep;obtain⟨bp,op,rfl,hbp,hcp0⟩:=hp4 j (by have:=HPL.out;omega);rw[Nat.mul_one]at hcp0;have hcp:=A7 hb hbp hcp0;generalize hpp:sp.getD j 0=pj at*
       obtain⟨pn,rfl⟩:=Int.eq_ofNat_of_zero_le hpj.1;have HPP:=hid hpp;have k0:=A7 hb hs2 I0.out;have hj1:(j:Int)<(sp.length:Int):=by have:=HPL.out;omega
       have hj0:(0:Int)≤(j:Int):=by omega
       have hne:¬b=wr.heap.size:=by omega
       have hlD:D<wr.heap.size:=ho.1;have hbpw:bp<wr.heap.size:=by omega
       have hpz:pn+oj.b.length≤zn:=by omega
       obtain⟨Wb,hWb⟩:∃W,wr.alloc (.cells #[.slice ba oj.b.length cb,.slice sa oj.s.length cs,.slice ta oj.t.length ct] 32)=W:=⟨_,rfl⟩
       have BB:Hid (Below wr.heap.size wr Wb):=by rw[←hWb];exact(Below.refl _ _).alloc (Nat.le_refl _) _
       have c0:Wb.cell? ⟨wr.heap.size,0,none⟩=some (.slice ba oj.b.length cb):=by rw[←hWb];simp[go_sem]
       have c2:Wb.cell? ⟨wr.heap.size,2,none⟩=some (.slice ta oj.t.length ct):=by rw[←hWb];simp[go_sem]
       have hsb:wr.heap.size<Wb.heap.size:=by rw[←hWb];simp
       have HOb:=hid (HO.out.below BB.out);have HBb:Hid (Below W2.heap.size W2 Wb):=B7 hb hbs' BB.out;have k0b:=A7 BB.out (by omega) k0;have hcpb:=A7 BB.out hbpw hcp;have hll:=M6 base l ⟨sp,zn,sm⟩ j;have hcpy:∀ty,(Builtin.copy_ #[28,28] ty #[.slice (if zn=pn then some ⟨D,0,none⟩else some ⟨D,pn,none⟩) (zn-pn) (zn-pn),.slice ba oj.b.length cb]).run prog Wb.drew= .ok (goInt oj.b.length) (Wb.drew.setCells D pn (oj.b.map (Value.int .u8))):=fun ty=>by
        by_cases hz:zn=pn
        ·have e:oj.b=[]:=List.length_eq_zero_iff.1 (by omega);rw[if_pos hz,e];exact run_copy_none Wb.drew 28 28 ty 5 _ _ _ _ _ _ (by kernel_rfl) (by kernel_rfl) (by simp)
        ·rw[if_neg hz];exact A2s (w:=Wb.drew) ((HBY.out.stays BB.out).stays (B8 (Below.refl _ _) 1)) (HOb.out.drewN 1) (by rw[hll];simp;omega) (by omega)
       have hpn0:(0:Int)≤(pn:Int):=by omega
       have hpn1:(pn:Int)≤(zn:Int):=by omega
       have HCP:=hid hcp0;clear hlo hx y0 y1 y2 ht3 hb ho hwr hp4 hcp0 hpp hpj hll;go_wp2_with fail
       clear hWb x0 x1 x2
       go_region
       clear hcpy;generalize(if zn=pn then(some ⟨D,0,none⟩:Option Addr)else some ⟨D,pn,none⟩)=a77;generalize hWe:Wb.drew.setCells D pn (oj.b.map (Value.int .u8))=We;have hdb:Below Wb.heap.size Wb Wb.drew:=B8 (Below.refl _ _) 1;have hLL:Hid ((K8 base l ⟨sp,zn,sm⟩ j).length=zn):=by
        show _=_
        have:=M6 base l ⟨sp,zn,sm⟩ j;simpa using this
       have HOe:Hid (OInts .u8 We D (O7 (K8 base l ⟨sp,zn,sm⟩ j) pn oj.b)):=by
        rw[←hWe];exact OInts.setCells (HOb.out.drewN 1) (by rw[hLL.out];omega)
       have HBe:Hid (Below W2.heap.size W2 We):=by
        rw[←hWe];exact Z9 (by omega) _ _ _ (B7 HBb.out (by omega) hdb)
       have c2e:We.cell? ⟨wr.heap.size,2,none⟩=some (.slice ta oj.t.length ct):=by
        rw[←hWe,m8 (by omega)];exact A7 hdb (by omega) c2
       clear hWe c0 c2 k0 hcp k0b hcpb hdb;go_wp2_with fail
       clear c2e;obtain⟨wz,rfl⟩:∃wz:World,wz=wr:=⟨_,rfl⟩
       go_loopw[84] (fun i wr=>∃k:Nat,k≤oj.t.length∧i= .int .i64 k∧OInts .u8 wr D (M3 base sm pn (O7 (K8 base l ⟨sp,zn,sm⟩ j) pn oj.b) (oj.t.take k))∧Below W2.heap.size W2 wr) (fun i _=>oj.t.length-(intOf i).toNat)
       case atStart=>exact⟨0,Nat.zero_le _,rfl,HOe.out,HBe.out⟩
       case round=>
        obtain⟨k,hk,rfl,ho,hb⟩:=hrel;have HOk:=hid ho;have HBk:=hid hb;have hks:=hb.size;by_cases hkl:k<oj.t.length
        ·obtain⟨b',q',ea,hbl',u0,u1,u2,u3⟩:=g8 HT3.out (B7 HW2.out (by omega) hb) k hkl;subst ea;have hyb:=A2e HOV.out _ (I7 hkl);obtain⟨av,hav⟩:=A1u HMS.out hjl' (k:=k) (by rw[HLO.out];exact hkl);rw[HLO.out]at hav;have hstep:=A0X (base:=base) (m:=sm) (p:=(pn:Int)) (out:=O7 (K8 base l ⟨sp,zn,sm⟩ j) pn oj.b) hkl;generalize hy:oj.t.getD k default=y at*
         clear hy;obtain⟨ya,yk,yn,yp⟩:=y;simp only at u0 u1 u2 u3 hyb hav;obtain⟨⟨ha0,ha1⟩,hk01,⟨hn0,hn1⟩,hp0,hp1'⟩:=hyb;obtain⟨yan,rfl⟩:=Int.eq_ofNat_of_zero_le ha0;have hvb:=A4u (HVS.out) hav;have hkey:=V0 (n:=yn) ⟨by omega,by omega⟩;have hhit:=U2 hav;have hne3:¬b'=wr.heap.size:=by omega
         obtain⟨Wc,hWc⟩:∃W,wr.alloc (.cells #[.int .i64 yan,.int .i64 yk,.int .i64 yn,.int .i64 yp] 150)=W:=⟨_,rfl⟩
         have BC:Hid (Below wr.heap.size wr Wc):=by rw[←hWc];exact(Below.refl _ _).alloc (Nat.le_refl _) _
         have t0:Wc.cell? ⟨wr.heap.size,0,none⟩=some (.int .i64 yan):=by rw[←hWc];simp[go_sem]
         have t1:Wc.cell? ⟨wr.heap.size,1,none⟩=some (.int .i64 yk):=by rw[←hWc];simp[go_sem]
         have t2:Wc.cell? ⟨wr.heap.size,2,none⟩=some (.int .i64 yn):=by rw[←hWc];simp[go_sem]
         have t3:Wc.cell? ⟨wr.heap.size,3,none⟩=some (.int .i64 yp):=by rw[←hWc];simp[go_sem]
         have hlc:wr.heap.size<Wc.heap.size:=by rw[←hWc];simp
         have HBc:Hid (Below W2.heap.size W2 Wc):=B7 hb hks BC.out;have HOc:=hid (ho.below BC.out);have k0c:=A7 HBc.out hs2 I0.out;have k2c:=A7 HBc.out hs2 I2.out;have hcpc:=A7 HBc.out hbp HCP.out;have hgI:w1.heap.size<Wc.heap.size:=by omega
         have hgP:bp<Wc.heap.size:=by omega
         have HST4:=hid hstep;have HAV:=hid hav;clear hstep hav ho hb;go_wp2_with fail
         clear hWc u0 u1 u2 u3;go_quiet(fail)
         have hdq:Below Wc.heap.size Wc (Wc.drewN nq):=B8 (Below.refl _ _) nq;have t1q:=A7 hdq hlc t1;have t2q:=A7 hdq hlc t2;have t3q:=A7 hdq hlc t3;have k2q:=A7 hdq hgI k2c;have HOq:Hid (OInts .u8 (Wc.drewN nq) D (M3 base sm pn (O7 (K8 base l ⟨sp,zn,sm⟩ j) pn oj.b) (oj.t.take k))):=HOc.out.drewN nq;have HBq:Hid (Below W2.heap.size W2 (Wc.drewN nq)):=B7 HBc.out (by omega) hdq;have hlk1:=A0n N8 underlying143 (HM2.out.below HBq.out) hkey hhit;have hWq:Wc.heap.size≤(Wc.drewN nq).heap.size:=hdq.size;have hL1:Hid ((M3 base sm pn (O7 (K8 base l ⟨sp,zn,sm⟩ j) pn oj.b) (oj.t.take k)).length=zn):=by
          show _=_
          rw[O2,Q9,hLL.out]
         generalize hout:M3 base sm pn (O7 (K8 base l ⟨sp,zn,sm⟩ j) pn oj.b) (oj.t.take k)=out at*
         generalize Wc.drewN nq=Wq at*
         clear hdq t0 t1 t2 t3 k0c k2c hcpc hout hhit hkey;have hS:Hid (M3 base sm pn (O7 (K8 base l ⟨sp,zn,sm⟩ j) pn oj.b) (oj.t.take (k+1))=A0a out (pn+yan) (Y9 base sm pn ⟨yan,yk,yn,yp⟩)):=by
          have e:=HST4.out;rw[show((pn:Int)+(⟨yan,yk,yn,yp⟩:Wn).a).toNat=pn+yan from by simp only;omega]at e;exact e
         obtain⟨wy,rfl⟩:∃wy:World,wy=wr:=⟨_,rfl⟩
         cases hk1:(yk==1)
         ·have hw:Hid (Y9 base sm pn ⟨yan,yk,yn,yp⟩=av+yp):=by
           show _=_
           unfold Y9;rw[if_neg (by simpa using hk1),HAV.out];rfl
          go_wp2_with fail
          generalize hN:av+yp=N at*
          exact A4T
         ·have hw:Hid (Y9 base sm pn ⟨yan,yk,yn,yp⟩=av+yp-(base+((pn:Int)+yan)+4)):=by
           show _=_
           unfold Y9;rw[if_pos (by simpa using hk1),HAV.out];rfl
          go_wp2_with fail
          generalize hN:av+yp-(base+((pn:Int)+yan)+4)=N at*
          exact A4T
        ·obtain rfl:k=oj.t.length:=by omega
         have HN:Hid (OInts .u8 wr D (K8 base l ⟨sp,zn,sm⟩ (j+1))):=by
          have e1:=j6 base l ⟨sp,zn,sm⟩ j;have e2:=HPP.out;simp only at e1;rw[HLO.out,e2]at e1;rw[e1];unfold A5w;rw[List.take_length]at ho;exact ho
         clear ho hb;go_wp2_with fail
         go_roundw
         case rel=>exact⟨j+1,by omega,by go_num,HN.out,HBk.out⟩
         case measure=>simp[intOf];omega
      ·obtain rfl:j=l.length:=by omega
       have hll:=M6 base l ⟨sp,zn,sm⟩ l.length;have HI:Hid (Ints .u8 wr (.slice (some ⟨D,0,none⟩) zn zn) (K8 base l ⟨sp,zn,sm⟩ l.length)):=by
        have:=ho.ints (by rw[hll];simp;omega);rw[hll]at this;exact this
       clear ho hb hll;go_wp2_with fail
       refine bodyPost_ret (v:=.tuple #[.slice (some ⟨D,0,none⟩) zn zn,.int .i64 0]) (by simp[results,results34,go_sem]) rfl ⟨_,by rw[HQ.out],fun h=>absurd HQ.out h,fun _ st hst=>?_,B7 HW2.out (by omega) HB'.out⟩;rw[HST.out]at hst;cases hst;exact HI.out
structure HaltAt(w:World)(b1 b0:Nat):Prop where
 s:w.cell? ⟨b1,0,none⟩=some (.slice (some ⟨b0,0,none⟩) 1 1)
 o:w.cell? ⟨b0,0,none⟩=some (.int .i64 26)
 d:w.cell? ⟨b0,1,none⟩=some (.int .i64 0)
 a:w.cell? ⟨b0,2,none⟩=some (.int .i64 0)
 b:w.cell? ⟨b0,3,none⟩=some (.int .i64 0)
 i:w.cell? ⟨b0,4,none⟩=some (.int .u32 0)
 t:w.cell? ⟨b0,5,none⟩=some (.int .i64 0)
def Q3:Cd:=⟨26,0,0,0,0,0⟩
theorem HaltAt.bls{w:World}{b1 b0:Nat}(h:HaltAt w b1 b0):Bls w (.slice (some ⟨b1,0,none⟩) 1 1) [[Q3]]:=by
 refine⟨some ⟨b1,0,none⟩,1,rfl,Nat.le_refl _,⟨by simp,by omega⟩,fun hh=>(by cases hh),fun i hi=>⟨b1,0,rfl,B6 h.s,?_⟩⟩;obtain rfl:i=0:=by simp at hi;omega
 refine⟨.slice (some ⟨b0,0,none⟩) 1 1,h.s,some ⟨b0,0,none⟩,1,rfl,Nat.le_refl _,⟨by simp,by omega⟩,fun hh=>(by cases hh),fun i hi=>⟨b0,0,rfl,B6 h.o,?_⟩⟩;obtain rfl:i=0:=by simp at hi;omega
 exact⟨h.o,h.d,h.a,h.b,h.i,h.t⟩
theorem A5F:A0M [[Q3]]:=by
 intro l hl x hx;simp only[List.mem_cons,List.not_mem_nil,or_false]at hl;subst hl;simp only[List.mem_cons,List.not_mem_nil,or_false]at hx;subst hx;exact⟨by decide,by decide⟩
theorem A5E:K9 0 [[Q3]]=0:=by
 refine A1c ⟨by decide,by decide,by decide,by decide,by decide⟩ (fun j hj i hi=>?_) (fun j hj=>?_)
 ·obtain rfl:j=0:=by simp at hj;omega
  obtain rfl:i=0:=by simp at hi;omega
  rfl
 ·obtain rfl:j=0:=by simp at hj;omega
  refine⟨by decide,fun i hi=>?_⟩;obtain rfl:i=0:=by simp at hi;omega
  rfl
theorem A5G{set:Int}(h:set=0∨set=1):F3 set 0 [[Q3]]=0:=by
 unfold F3;rw[A5E];rcases h with rfl|rfl<;>rfl
theorem A6y{set:Int}(hs:set=0∨set=1){k:Nat}(hk:∀lo,D4 set [Q3] lo 1=k)(h8:k≤8192)(b1 b0:Nat)(w:World)(h:HaltAt w b1 b0):Calls prog 9 #[.int .i64 set,.agg #[.int .i64 0,.slice (some ⟨b1,0,none⟩) 1 1]] w fun e w'=>(∃D S1,e= .returned (.tuple #[.agg #[.slice (some ⟨D,0,none⟩) k k,.slice (some ⟨S1,0,none⟩) 1 1,.slice none 0 0],.int .i64 0]))∧Below w.heap.size w w':=by
 refine(A1X set 0 [[Q3]] _ w h.bls (by decide) (by decide) A5F).mono fun e w' hh=>⟨?_,hh.2⟩
 rcases hh.1 with⟨h1,_⟩|⟨_,lo,_,⟨h2,_⟩|⟨_,D,S1,h3,_⟩⟩
 ·exact absurd (A5G hs) h1
 ·have:=hk lo;have e1:[[Q3]].flatten=[Q3]:=rfl;rw[e1]at h2;have e2:[Q3].length=1:=rfl;rw[e2]at h2;omega
 ·refine⟨D,S1,?_⟩;have e1:[[Q3]].flatten=[Q3]:=rfl;rw[e1]at h3;have e2:[Q3].length=1:=rfl;rw[e2,hk lo]at h3;exact h3
theorem A6i(b1 b0:Nat)(w:World)(h:HaltAt w b1 b0):Calls prog 9 #[.int .i64 0,.agg #[.int .i64 0,.slice (some ⟨b1,0,none⟩) 1 1]] w fun e w'=>(∃D S1,e= .returned (.tuple #[.agg #[.slice (some ⟨D,0,none⟩) 4 4,.slice (some ⟨S1,0,none⟩) 1 1,.slice none 0 0],.int .i64 0]))∧Below w.heap.size w w':=A6y (set:=0) (k:=4) (.inl rfl) (fun lo=>by unfold D4;rfl) (by decide) b1 b0 w h
theorem A6h(b1 b0:Nat)(w:World)(h:HaltAt w b1 b0):Calls prog 9 #[.int .i64 1,.agg #[.int .i64 0,.slice (some ⟨b1,0,none⟩) 1 1]] w fun e w'=>(∃D S1,e= .returned (.tuple #[.agg #[.slice (some ⟨D,0,none⟩) 1 1,.slice (some ⟨S1,0,none⟩) 1 1,.slice none 0 0],.int .i64 0]))∧Below w.heap.size w w':=A6y (set:=1) (k:=1) (.inr rfl) (fun lo=>by unfold D4;rfl) (by decide) b1 b0 w h
theorem A5H(w:World):Calls prog 32 #[] w fun e w'=>∃b1 b0,e= .returned (.agg #[.int .i64 0,.slice (some ⟨b1,0,none⟩) 1 1])∧HaltAt w' b1 b0∧Below w.heap.size w w':=by
 go_enter func32,ntmps32;go_wp2_with fail
 refine bodyPost_ret (v:=.agg #[.int .i64 0,.slice (some ⟨w.heap.size+1+1,0,none⟩) 1 1]) (Cls.res1 (b:=w.heap.size) (cs:=[.int .i64 0,.slice (some ⟨w.heap.size+1+1,0,none⟩) 1 1]) ?_ rfl rfl underlying24 rfl (by kernel_rfl)) rfl ⟨w.heap.size+1+1,w.heap.size+1,rfl,⟨?_,?_,?_,?_,?_,?_,?_⟩,(((Below.refl _ _).alloc (Nat.le_refl _) _).alloc (by simp) _).alloc (by simp;omega) _⟩
 ·intro k v hk
  match k,hk with
  |0,hk=>simp at hk;subst hk;simp[go_sem]
  |1,hk=>simp at hk;subst hk;simp[go_sem]
  |k+2,hk=>simp at hk
 all_goals simp[go_sem]
def knL:List Ob:=[⟨[1,2,3,4,5],[],[]⟩,⟨[6,7,8,9,10],[⟨7,0⟩],[]⟩]
def knS:Im:=⟨[0,8],13,[(7,108)]⟩
theorem A6N:T6 100 knL 7=(108,true,0):=by decide
theorem B0J:Q2 100 knL=0:=by decide
theorem B0I:J0 100 knL=some knS:=by rfl
theorem B0K:K8 100 knL knS knL.length=[1,2,3,4,5,0,0,0,6,7,8,9,10]:=by decide
theorem A7r:strOfNums [1,2,3,4,5,0,0,0,6,7,8,9,10]=⟨#[1,2,3,4,5,0,0,0,6,7,8,9,10]⟩:=by decide
theorem A9b:∀o∈knL,ObF o:=by
 intro o ho;simp only[knL,List.mem_cons,List.not_mem_nil,or_false]at ho;rcases ho with rfl|rfl
 ·refine⟨fun y hy=>?_,fun y hy=>(by cases hy),fun y hy=>(by cases hy)⟩;simp only[List.mem_cons,List.not_mem_nil,or_false]at hy;rcases hy with rfl|rfl|rfl|rfl|rfl<;>rfl
 ·refine⟨fun y hy=>?_,fun y hy=>?_,fun y hy=>(by cases hy)⟩
  ·simp only[List.mem_cons,List.not_mem_nil,or_false]at hy;rcases hy with rfl|rfl|rfl|rfl|rfl<;>rfl
  ·simp only[List.mem_cons,List.not_mem_nil,or_false]at hy;subst hy;exact⟨rfl,rfl⟩
theorem Sys.noSy(w:World):Sys w (.slice none 0 0) []:=⟨none,0,rfl,Nat.le_refl _,⟨by simp,by omega⟩,fun _=>rfl,fun i hi=>absurd hi (by simp)⟩
theorem Wns.noWn(w:World):Wns w (.slice none 0 0) []:=⟨none,0,rfl,Nat.le_refl _,⟨by simp,by omega⟩,fun _=>rfl,fun i hi=>absurd hi (by simp)⟩
theorem by5{w W:World}{g:Nat}{a b c d e:Int}(hb:Below (w.heap.size+1) (w.alloc (.cells #[.int .u8 a,.int .u8 b,.int .u8 c,.int .u8 d,.int .u8 e] 5)) W)(hg:w.heap.size=g):Ints .u8 W (.slice (some ⟨g,0,none⟩) 5 5) [a,b,c,d,e]:=by
 subst hg;have h:OInts .u8 (w.alloc (.cells #[.int .u8 a,.int .u8 b,.int .u8 c,.int .u8 d,.int .u8 e] 5)) w.heap.size [a,b,c,d,e]:=by
  refine⟨by simp,fun i hi=>?_⟩;have hi':i=0∨i=1∨i=2∨i=3∨i=4:=by simp at hi;omega
  rcases hi' with rfl|rfl|rfl|rfl|rfl<;>simp[go_sem]
 exact OInts.ints (h.below (by simpa using hb)) (by simp)
theorem A7s(w:World)(n:Nat)(hn:w.heap.size=n):Obs ((((w.alloc (.cells #[.int .u8 1,.int .u8 2,.int .u8 3,.int .u8 4,.int .u8 5] 5)).alloc (.cells #[.int .u8 6,.int .u8 7,.int .u8 8,.int .u8 9,.int .u8 10] 5)).alloc (.cells #[.int .i64 7,.int .i64 0] 40)).alloc (.cells #[.slice (some ⟨n,0,none⟩) 5 5,.slice none 0 0,.slice none 0 0,.slice (some ⟨n+1,0,none⟩) 5 5,.slice (some ⟨n+1+1,0,none⟩) 1 1,.slice none 0 0] 32)) (.slice (some ⟨n+1+1+1,0,none⟩) 2 2) knL:=by
 subst hn;refine⟨some ⟨w.heap.size+1+1+1,0,none⟩,2,rfl,Nat.le_refl _,⟨by simp[knL],by omega⟩,(fun hh=>by cases hh),fun i hi=>⟨_,0,rfl,by simp,?_⟩⟩;have hi':i=0∨i=1:=by simp[knL]at hi;omega
 rcases hi' with rfl|rfl
 ·refine⟨.slice (some ⟨w.heap.size,0,none⟩) 5 5,.slice none 0 0,.slice none 0 0,by simp[go_sem],by simp[go_sem],by simp[go_sem],by5 (w:=w) (a:=1) (b:=2) (c:=3) (d:=4) (e:=5) ?_ rfl,Sys.noSy _,Wns.noWn _⟩;exact(((Below.refl _ _).alloc (by simp) _).alloc (by simp) _).alloc (by simp) _
 ·refine⟨.slice (some ⟨w.heap.size+1,0,none⟩) 5 5,.slice (some ⟨w.heap.size+1+1,0,none⟩) 1 1,.slice none 0 0,by simp[go_sem],by simp[go_sem],by simp[go_sem],by5 (w:=w.alloc (.cells #[.int .u8 1,.int .u8 2,.int .u8 3,.int .u8 4,.int .u8 5] 5)) (a:=6) (b:=7) (c:=8) (d:=9) (e:=10) ?_ (by simp),?_,Wns.noWn _⟩
  ·exact((Below.refl _ _).alloc (by simp) _).alloc (by simp) _
  ·refine⟨some ⟨w.heap.size+1+1,0,none⟩,1,rfl,Nat.le_refl _,⟨by simp[knL],by omega⟩,(fun hh=>by cases hh),fun i hi=>⟨_,0,rfl,by simp,?_⟩⟩;obtain rfl:i=0:=by simp[knL]at hi;omega
   exact⟨by simp[go_sem,knL],by simp[go_sem,knL]⟩
theorem A6L(w:World):Calls prog 8 #[] w fun e w'=>e= .returned (.bool true)∧Below w.heap.size w w':=by
 have C1:=hid A5H;have C2:=hid A6i;have C3:=hid A6h;have KE:=hid B0J;have KS:=hid B0I;have KB:=hid B0K;go_enter func8,ntmps8;go_upto_region 2 with(first|(go_at_call 32;with_reducible refine(C1.out _).mono ?_;rintro e w1 ⟨b1,b0,rfl,hh1,hb1⟩;have HB1:=hid hb1;clear hb1)|((with_reducible refine(C2.out _ _ _ hh1).mono ?_);rintro e w2 ⟨⟨D,S1,rfl⟩,hb2⟩;have HB2:=hid hb2;clear hb2))
 generalize hW2:w2.alloc (.cells #[.slice (some ⟨D,0,none⟩) 4 4,.slice (some ⟨S1,0,none⟩) 1 1,.slice none 0 0] 32)=W2 at*
 have B2:Hid (Below w2.heap.size w2 W2):=by rw[←hW2];exact(Below.refl _ _).alloc (Nat.le_refl _) _
 have o0:W2.cell? ⟨w2.heap.size,0,none⟩=some (.slice (some ⟨D,0,none⟩) 4 4):=by rw[←hW2];simp[go_sem]
 have hs2:w2.heap.size<W2.heap.size:=by rw[←hW2];simp
 have O0:=hid o0;clear hW2 o0 hh1;go_upto_region 3 with(first|(go_at_call 32;with_reducible refine(C1.out _).mono ?_;rintro e w3 ⟨b1',b0',rfl,hh3,hb3⟩;have HB3:=hid hb3;clear hb3)|((with_reducible refine(C3.out _ _ _ hh3).mono ?_);rintro e w4 ⟨⟨D2,S2,rfl⟩,hb4⟩;have HB4:=hid hb4;clear hb4))
 generalize hW4:w4.alloc (.cells #[.slice (some ⟨D2,0,none⟩) 1 1,.slice (some ⟨S2,0,none⟩) 1 1,.slice none 0 0] 32)=W4 at*
 have B4:Hid (Below w4.heap.size w4 W4):=by rw[←hW4];exact(Below.refl _ _).alloc (Nat.le_refl _) _
 have o1:W4.cell? ⟨w4.heap.size,0,none⟩=some (.slice (some ⟨D2,0,none⟩) 1 1):=by rw[←hW4];simp[go_sem]
 have hs4:w4.heap.size<W4.heap.size:=by rw[←hW4];simp
 have B24:Hid (Below W2.heap.size W2 W4):=B7 (B7 HB3.out HB3.out.size HB4.out) (by have:=HB3.out.size;have:=HB4.out.size;omega) B4.out;have HO1:=hid (A7 B24.out hs2 O0.out);have HO2:=hid o1;clear hW4 o1 hh3;go_upto_region 4 with fail
 have HX:=hid (A7s W4 _ rfl);generalize hW5:(((W4.alloc (.cells #[.int .u8 1,.int .u8 2,.int .u8 3,.int .u8 4,.int .u8 5] 5)).alloc (.cells #[.int .u8 6,.int .u8 7,.int .u8 8,.int .u8 9,.int .u8 10] 5)).alloc (.cells #[.int .i64 7,.int .i64 0] 40)).alloc (.cells #[.slice (some ⟨W4.heap.size,0,none⟩) 5 5,.slice none 0 0,.slice none 0 0,.slice (some ⟨W4.heap.size+1,0,none⟩) 5 5,.slice (some ⟨W4.heap.size+1+1,0,none⟩) 1 1,.slice none 0 0] 32)=W5 at*
 have B5:Hid (Below W4.heap.size W4 W5):=by rw[←hW5];exact((((Below.refl _ _).alloc (Nat.le_refl _) _).alloc (by simp) _).alloc (by simp;omega) _).alloc (by simp;omega) _
 clear hW5;have C4:=hid (A3X knL _ 100 7 W5 HX.out A9b ⟨by decide,by decide⟩);rw[A6N]at C4;have C5:=hid (fun w' (hb:Below W5.heap.size W5 w')=>A3W knL _ 100 w' (HX.out.stays hb) A9b);go_upto_region 6 with(first|((with_reducible refine C4.out.mono ?_);rintro e w6 ⟨rfl,hb6⟩;have HB6:=hid hb6;clear hb6)|((with_reducible refine(C5.out _ HB6.out).mono ?_);rintro e w7 ⟨v7,rfl,-,hv7,hb7⟩;rw[KE.out];have HV7:=hid (hv7 KE.out _ KS.out);have HB7:=hid hb7;clear hv7 hb7))
 have hst:=HV7.out.str;rw[KB.out,A7r]at hst;have B47:Hid (Below W4.heap.size W4 w7):=A8 (A8 B5.out HB6.out) HB7.out;have p1:=A7 B47.out (by have:=B24.out.size;omega) HO1.out;have p2:=A7 B47.out hs4 HO2.out;have BF:Hid (Below w.heap.size w w7):=A8 (A8 (A8 (A8 HB1.out HB2.out) B2.out) B24.out) B47.out;obtain⟨a7,c7,rfl,-⟩:=HV7.out.shape2;clear HV7;go_wp2_with fail
 go_ret;exact⟨rfl,BF.out⟩
def trL(lo:List Bool)(n:Nat):List Int:=((List.range n).filter fun k=>lo.getD k false).map fun n:Nat=>(n:Int)
theorem A5j{lo:List Bool}{n:Nat}(h:lo.getD n false=true):trL lo (n+1)=trL lo n++[(n:Int)]:=by
 unfold trL;rw[List.range_succ,List.filter_append,List.map_append,List.filter_cons_of_pos (by exact h)];rfl
theorem A7D{lo:List Bool}{n:Nat}(h:lo.getD n false=false):trL lo (n+1)=trL lo n:=by
 unfold trL;rw[List.range_succ,List.filter_append,List.map_append,List.filter_cons_of_neg (by rw[h];decide)];exact List.append_nil _
theorem v6(lo:List Bool)(n:Nat):(trL lo n).length≤n:=by
 unfold trL;rw[List.length_map];exact Nat.le_trans (List.length_filter_le _ _) (by rw[List.length_range];exact Nat.le_refl _)
set_option maxHeartbeats 4000000 in
theorem A3v(set regs:Int)(bs:List (List Cd))(v:Value)(w:World)(hv:Bls w v bs)(h0:toC bs≤500)(h1:bs.length≤500)(hi:A0M bs):Calls prog 16 #[.int .i64 set,.agg #[.int .i64 regs,v]] w fun e w'=>((F3 set regs bs≠0∧e= .returned (.tuple #[.slice none 0 0,.int .i64 (F3 set regs bs)]))∨(F3 set regs bs=0∧∃lo u,Relx set bs.flatten (blS bs) lo∧e= .returned (.tuple #[u,.int .i64 0])∧RowI w' w.heap.size 3 .i64 u (trL lo bs.flatten.length)))∧Below w.heap.size w w':=by
 have HV:=hid hv;obtain⟨va,vc,rfl,hl1,hl2⟩:=hv.shape;obtain⟨W1,hW1⟩:∃W,w.alloc (.cells #[.int .i64 regs,.slice va bs.length vc] 24)=W:=⟨_,rfl⟩
 have BB:Hid (Below w.heap.size w W1):=by rw[←hW1];exact(Below.refl _ _).alloc (Nat.le_refl _) _
 have hs:w.heap.size<W1.heap.size:=by rw[←hW1];simp
 have p0:W1.cell? ⟨w.heap.size,0,none⟩=some (.int .i64 regs):=by rw[←hW1];simp[go_sem]
 have p1:W1.cell? ⟨w.heap.size,1,none⟩=some (.slice va bs.length vc):=by rw[←hW1];simp[go_sem]
 have C1:=hid (M7 set regs bs _ W1 (HV.out.stays BB.out) h0 h1 hi);unfold A3w at C1;clear hv;by_cases hz:F3 set regs bs=0
 rotate_left
 ·have C2:Hid (Calls prog 35 #[.int .i64 set,.agg #[.int .i64 regs,.slice va bs.length vc]] W1 fun e w'=>e= .returned (.tuple #[.pointer none,.int .i64 (F3 set regs bs)])∧Below W1.heap.size W1 w'):=hid (C1.out.mono fun e w' h=>⟨h.1.elim (fun h=>h.2) (fun h=>absurd h.1 hz),h.2⟩);have d1:(F3 set regs bs !=0)=true:=by simpa using hz
  generalize F3 set regs bs=q at*
  clear C1;go_enter func16,ntmps16;go_wp2_with(go_at_call 35;(with_reducible refine C2.out.mono ?_);rintro e w2 ⟨rfl,hb2⟩;have HB2:=hid hb2;clear hb2)
  refine bodyPost_ret (v:=.tuple #[.slice none 0 0,.int .i64 q]) (by simp[results,results16,go_sem]) rfl ⟨.inl ⟨hz,rfl⟩,A8 BB.out HB2.out⟩
 ·have C2:Hid (Calls prog 35 #[.int .i64 set,.agg #[.int .i64 regs,.slice va bs.length vc]] W1 fun e w'=>∃L lo B b cb d db s g,e= .returned (.tuple #[.pointer (some ⟨L,0,none⟩),.int .i64 0])∧LayW (tS set) B L b cb d db s g bs.flatten (blS bs) (F4 set bs.flatten lo) lo w'∧Relx set bs.flatten (blS bs) lo∧Below W1.heap.size W1 w'):=hid (C1.out.mono fun e w' h=>by
   rcases h.1 with h2|⟨_,L,lo,e1,B,b,cb,d,db,s,g,hl,hr⟩
   ·exact absurd hz h2.1
   ·exact⟨L,lo,B,b,cb,d,db,s,g,e1,hl,hr,h.2⟩)
  have HZ:=hid hz;have HFL:=hid (E6 bs);clear C1 hz;generalize hcs:bs.flatten=cs at*
  generalize hbl:blS bs=bl at*
  go_enter func16,ntmps16;go_wp2_with(go_at_call 35;(with_reducible refine C2.out.mono ?_);rintro e w2 ⟨L,lo,B,b,cb,d,db,s,g,rfl,hlay,hrx,hb2⟩;have HLY:=hid hlay;have HRX:=hid hrx;have HB2:=hid hb2;have l1:=hlay.hl.at 1 (.slice (some ⟨b,0,none⟩) cs.length cb) rfl;have l3:=hlay.hl.at 3 (.slice (some ⟨s,0,none⟩) (cs.length+1) (cs.length+1)) rfl;have l4:=hlay.hl.at 4 (.slice (some ⟨g,0,none⟩) cs.length cs.length) rfl;clear hlay hrx hb2 p0 p1)
  have hsz:=HLY.out.hn;have hn5:cs.length≤500:=hsz.2.2.2.2.2.2.2;have HL2:=hid (Below.refl w2.heap.size w2);clear hsz;go_wp2_with fail
  go_loopw[8,9,10,25] (fun out _ _ i wr=>∃(j:Nat) (u:Value),j≤cs.length∧i= .int .i64 (j:Nat)∧out=u∧Hid (RowI wr w2.heap.size 3 .i64 u (trL lo j))∧Hid (Below w2.heap.size w2 wr)) (fun _ _ _ i _=>cs.length-(intOf i).toNat)
  case atStart=>exact⟨0,_,Nat.zero_le _,rfl,rfl,hid (RowI.nil _ _ _ _),HL2⟩
  case round=>
   obtain⟨j,u,hj,rfl,rfl,HR,HBr⟩:=hrel;have HLr:Hid (LayW (tS set) B L b cb d db s g cs bl (F4 set cs lo) lo wr):=hid (HLY.out.below HBr.out);by_cases hlt:j<cs.length
   ·have hlt':(j:Int)<(cs.length:Int):=Int.ofNat_lt.2 hlt;have HLT:=hid hlt;have g0:=HLr.out.hg.at j (.bool (lo.getD j false)) (by rw[List.getElem?_map,List.getD_eq_getElem?_getD,List.getElem?_eq_getElem (by rw[HLr.out.lg];exact hlt)];rfl);have hj1:IntKind.i64.wrap ((j:Int)+1)=((j+1:Nat):Int):=by rw[IntWalk.i64_left];exact IntWalk.wrap64_in _ (by omega)
    cases hb:lo.getD j false
    ·rw[hb]at g0;have HT:=hid (A7D hb);clear l1 l3 l4;go_wp2_with fail
     go_roundw
     case rel=>exact⟨j+1,u8,by omega,by go_num,rfl,by rw[HT.out];exact HR,HBr⟩
     case measure=>simp[intOf];omega
    ·rw[hb]at g0;have HT:=hid (A5j hb);have HTL:=hid (v6 lo j);obtain⟨ua,uc,rfl⟩:=HR.out.shape;obtain⟨i0,hi0,hz0,hz1,hz2⟩:=info_parts V1;have hwr:=HBr.out.size;clear l1 l3 l4;generalize htl:(trL lo j).length=tn at*
     go_wp2_with(at_builtin;refine wpList_append_lies _ rfl _ _ _ rfl w2.heap.size 3 i0 _ 1 8 underlying54 hi0 hz0 hz1 hz2 rfl (by decide) (.slice ua tn uc) tn ((trL lo j).map (Value.int .i64)) rfl (RowI.own (RowI.below HR.out ((Below.refl _ _).alloc (Nat.le_refl _) _)) htl) ⟨wr.heap.size,0,none⟩ 1 1 [.int .i64 (j:Nat)] rfl rfl (World.news_of_block (cs:=#[.int .i64 (j:Nat)]) (t:=3) (fr:=(0,0)) (show _ from Array.getElem?_push_size)) (by simp[Value.oneCell']) (by decide) (by have:=HTL.out;unfold maxLen;omega) (by have:=HTL.out;omega) (by simp;omega) (wr.heap.size+1) (by simp) (fun gc capc w6 ho6 hg6 hat6 hl6=>?_))
     refine⟨⟨j+1,_,by omega,by go_num,rfl,hid ?_,hid (Below.grown (B:=w2.heap.size) (HBr.out.alloc hwr (.cells #[.int .i64 (j:Nat)] 3)) hg6 (by simp;omega) (fun k hk=>(H5 HR.out k hk).1))⟩,by simp[intOf];omega⟩;rw[HT.out];exact RowI.app1 ho6 htl rfl
   ·obtain rfl:j=cs.length:=by omega
    have hd:decide ((cs.length:Int)<(cs.length:Int))=false:=decide_eq_false (by omega);clear l1 l3 l4;go_wp2_with fail
    refine bodyPost_ret (v:=.tuple #[u8,.int .i64 0]) (by simp[results,results16,go_sem]) rfl ⟨.inr ⟨HZ.out,lo,u8,HRX.out,rfl,World.ownsRow.mono HR.out (A8 BB.out HB2.out).size⟩,A8 (A8 BB.out HB2.out) HBr.out⟩
end Go.Proofs.YtajljbmeaeeknaaGreat
