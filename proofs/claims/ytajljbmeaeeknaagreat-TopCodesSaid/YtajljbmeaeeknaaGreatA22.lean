/- -/
import Derived.Maps.AppendAt
import Derived.Test.YtajljbmeaeeknaaGreatA21
open Go.Proofs.Tryz
open Go.Lib (hid)
set_option maxHeartbeats 1000000
set_option maxRecDepth 100000
namespace Go.Proofs.YtajljbmeaeeknaaGreat
open Go.RowKit
set_option linter.unusedVariables false
set_option linter.unusedSimpArgs false
theorem B3r{p:Prop}(h:p:=by
 go_wp2_with(first|((with_reducible first|refine(CM.out).mono ?_|refine(CA.out).mono ?_|refine(CB.out).mono ?_|refine(CN.out).mono ?_|refine(C1.out).mono ?_|refine(C8.out _).mono ?_);rintro e w' ⟨rfl,rfl⟩)|((with_reducible refine(CR.out _ (by assumption)).mono ?_);rintro e w1 ⟨rfl,hm1,hc1⟩))
 go_ret;exact⟨rfl,hm1,hc1⟩
 ):p:=h
theorem D8{z:Int}(h:z=16∨z=32):0<pwZ z∧pwZ z≤4294967296∧pwZ z∣4294967296:=by
 rcases h with rfl|rfl
 ·exact⟨by decide,by decide,by decide⟩
 ·exact⟨by decide,by decide,by decide⟩
def adN(a b z:Int):Int:=(a+b)%pwZ z
def adO(a b z:Int):Int:=(if pwZ z≤a+b then 1 else 0)+(if hiB a z=hiB b z∧hiB (adN a b z) z≠hiB a z then 8 else 0)
def suN(a b z:Int):Int:=(a-b)%pwZ z
def suO(a b z:Int):Int:=(if a<b then 1 else 0)+(if hiB a z≠hiB b z∧hiB (suN a b z) z≠hiB a z then 8 else 0)
theorem A3p{a b z:Int}(h:z=16∨z=32):0≤adN a b z∧adN a b z<pwZ z:=⟨Int.emod_nonneg _ (by have:=(D8 h).1;omega),Int.emod_lt_of_pos _ (D8 h).1⟩
theorem n9{a b z:Int}(h:z=16∨z=32):0≤suN a b z∧suN a b z<pwZ z:=⟨Int.emod_nonneg _ (by have:=(D8 h).1;omega),Int.emod_lt_of_pos _ (D8 h).1⟩
theorem A6P{p q:Prop}[Decidable p][Decidable q]:OthF ((if p then 1 else 0)+(if q then 8 else 0)):=by
 unfold OthF;by_cases hp:p<;>by_cases hq:q<;>simp[hp,hq]
theorem Z8(n z:Int)(h:z=16∨z=32):bits .and .u32 (IntKind.u32.wrap n) (pwZ z-1)=n%pwZ z:=by
 rw[IntKind.wrap_u32,f9 _ z h (by omega) (by omega)];exact Int.emod_emod_of_dvd _ (D8 h).2.2
section
variable {base T M : Nat} {mv : Value} {x : Ins} {z : Int} {fl : Bool} {c : Mac}
theorem A1s{p:Prop}(h:p:=by
 go_enter func221,ntmps221;exact B3r
 ):p:=h
theorem A4F(a b:Int)(w:World)(h:MSt base T M mv x z fl c w)(a0:0≤a)(a1:a<4294967296)(b0:0≤b)(b1:b<4294967296):Calls prog 221 #[.pointer (some ⟨T,0,none⟩),.int .u32 a,.int .u32 b] w fun e w'=>e= .returned (.int .u32 (adN a b z))∧MSt base T M mv x z fl {c with f:=rsF (adN a b z) z (adO a b z)} w'∧Ch T M mv w w':=by
 have hpw:=D8 h.zz;have hnb:=A3p (a:=a) (b:=b) h.zz;have HA:=Z8 (a+b) z h.zz;have CM:=hid (T1 w h);have CA:=hid (O8 a w h a0 a1);have CB:=hid (O8 b w h b0 b1);have CN:=hid (O8 (adN a b z) w h hnb.1 (by omega));have hm1:pwZ z-1<a+b↔pwZ z≤a+b:=by omega
 obtain⟨p,hp⟩:∃p,decide (pwZ z-1<a+b)=p:=⟨_,rfl⟩
 have C1:=hid (M7 p 1 w);have C8:=hid (fun b=>M7 b 8 w);have hO:adO a b z=(if p=true then 1 else 0)+(if hiB a z=hiB b z∧hiB (adN a b z) z≠hiB a z then 8 else 0):=by
  unfold adO;have:(p=true)=(pwZ z≤a+b):=propext (by rw[←hp,decide_eq_true_iff];exact hm1);simp only[this]
 obtain⟨f1,hf1⟩:∃f,(if p=true then(1:Int)else 0)=f:=⟨_,rfl⟩
 rw[hf1]at C1 hO;have hf:f1=0∨f1=1:=by rw[←hf1];split<;>simp
 have ho8:bits .or .i64 f1 8=f1+8:=by rcases hf with rfl|rfl<;>decide
 have ho0:bits .or .i64 f1 0=f1:=by rcases hf with rfl|rfl<;>decide
 have hth:OthF (adO a b z):=A6P;have CR:=hid (fun o (ho:OthF o)=>P4 (adN a b z) o w h hnb.1 (by omega) ho);have HN:bits .and .u32 (IntKind.u32.wrap (a+b)) (pwZ z-1)=adN a b z:=HA;have HO:=hid hO;obtain⟨ha,hha⟩:∃q,hiB a z=q:=⟨_,rfl⟩
 obtain⟨hb,hhb⟩:∃q,hiB b z=q:=⟨_,rfl⟩
 obtain⟨hn,hhn⟩:∃q,hiB (adN a b z) z=q:=⟨_,rfl⟩
 rw[hha]at CA HO;rw[hhb]at CB HO;rw[hhn]at CN HO;have HTH:=hid hth;have hwr:IntKind.u32.wrap (a+b)=(a+b)%4294967296:=IntKind.wrap_u32 _;generalize adN a b z=n at*
 generalize adO a b z=o at*
 have hmb:0≤pwZ z-1∧pwZ z-1<4294967296:=by omega
 generalize pwZ z-1=m at*
 clear h hpw hnb HA hf1 hf hO hha hhb hhn hth hm1;rw[hwr]at HN;clear hwr;cases ha<;>cases hb<;>cases hn
 ·have HV:Hid (o=f1):=hid (by rw[HO.out];simp);have hoth:OthF (f1):=by rw[←HV.out];exact HTH.out
  rw[HV.out];clear HO HV HTH;exact A1s
 ·have HV:Hid (o=f1+8):=hid (by rw[HO.out];simp);have hoth:OthF (f1+8):=by rw[←HV.out];exact HTH.out
  rw[HV.out];clear HO HV HTH;exact A1s
 ·have HV:Hid (o=f1):=hid (by rw[HO.out];simp);have hoth:OthF (f1):=by rw[←HV.out];exact HTH.out
  rw[HV.out];clear HO HV HTH;exact A1s
 ·have HV:Hid (o=f1):=hid (by rw[HO.out];simp);have hoth:OthF (f1):=by rw[←HV.out];exact HTH.out
  rw[HV.out];clear HO HV HTH;exact A1s
 ·have HV:Hid (o=f1):=hid (by rw[HO.out];simp);have hoth:OthF (f1):=by rw[←HV.out];exact HTH.out
  rw[HV.out];clear HO HV HTH;exact A1s
 ·have HV:Hid (o=f1):=hid (by rw[HO.out];simp);have hoth:OthF (f1):=by rw[←HV.out];exact HTH.out
  rw[HV.out];clear HO HV HTH;exact A1s
 ·have HV:Hid (o=f1+8):=hid (by rw[HO.out];simp);have hoth:OthF (f1+8):=by rw[←HV.out];exact HTH.out
  rw[HV.out];clear HO HV HTH;exact A1s
 ·have HV:Hid (o=f1):=hid (by rw[HO.out];simp);have hoth:OthF (f1):=by rw[←HV.out];exact HTH.out
  rw[HV.out];clear HO HV HTH;exact A1s
theorem A1r{p:Prop}(h:p:=by
 go_enter func167,ntmps167;exact B3r
 ):p:=h
theorem g8(a b:Int)(w:World)(h:MSt base T M mv x z fl c w)(a0:0≤a)(a1:a<4294967296)(b0:0≤b)(b1:b<4294967296):Calls prog 167 #[.pointer (some ⟨T,0,none⟩),.int .u32 a,.int .u32 b] w fun e w'=>e= .returned (.int .u32 (suN a b z))∧MSt base T M mv x z fl {c with f:=rsF (suN a b z) z (suO a b z)} w'∧Ch T M mv w w':=by
 have hpw:=D8 h.zz;have hnb:=n9 (a:=a) (b:=b) h.zz;have HA:=Z8 (a-b) z h.zz;have CM:=hid (T1 w h);have CA:=hid (O8 a w h a0 a1);have CB:=hid (O8 b w h b0 b1);have CN:=hid (O8 (suN a b z) w h hnb.1 (by omega));have hm1:a<b↔a<b:=by omega
 obtain⟨p,hp⟩:∃p,decide (a<b)=p:=⟨_,rfl⟩
 have C1:=hid (M7 p 1 w);have C8:=hid (fun b=>M7 b 8 w);have hO:suO a b z=(if p=true then 1 else 0)+(if hiB a z≠hiB b z∧hiB (suN a b z) z≠hiB a z then 8 else 0):=by
  unfold suO;have:(p=true)=(a<b):=propext (by rw[←hp,decide_eq_true_iff]);simp only[this]
 obtain⟨f1,hf1⟩:∃f,(if p=true then(1:Int)else 0)=f:=⟨_,rfl⟩
 rw[hf1]at C1 hO;have hf:f1=0∨f1=1:=by rw[←hf1];split<;>simp
 have ho8:bits .or .i64 f1 8=f1+8:=by rcases hf with rfl|rfl<;>decide
 have ho0:bits .or .i64 f1 0=f1:=by rcases hf with rfl|rfl<;>decide
 have hth:OthF (suO a b z):=A6P;have CR:=hid (fun o (ho:OthF o)=>P4 (suN a b z) o w h hnb.1 (by omega) ho);have HN:bits .and .u32 (IntKind.u32.wrap (a-b)) (pwZ z-1)=suN a b z:=HA;have HO:=hid hO;obtain⟨ha,hha⟩:∃q,hiB a z=q:=⟨_,rfl⟩
 obtain⟨hb,hhb⟩:∃q,hiB b z=q:=⟨_,rfl⟩
 obtain⟨hn,hhn⟩:∃q,hiB (suN a b z) z=q:=⟨_,rfl⟩
 rw[hha]at CA HO;rw[hhb]at CB HO;rw[hhn]at CN HO;have HTH:=hid hth;have hwr:IntKind.u32.wrap (a-b)=(a-b)%4294967296:=IntKind.wrap_u32 _;generalize suN a b z=n at*
 generalize suO a b z=o at*
 have hmb:0≤pwZ z-1∧pwZ z-1<4294967296:=by omega
 generalize pwZ z-1=m at*
 clear h hpw hnb HA hf1 hf hO hha hhb hhn hth hm1;rw[hwr]at HN;clear hwr;cases ha<;>cases hb<;>cases hn
 ·have HV:Hid (o=f1):=hid (by rw[HO.out];simp);have hoth:OthF (f1):=by rw[←HV.out];exact HTH.out
  rw[HV.out];clear HO HV HTH;exact A1r
 ·have HV:Hid (o=f1):=hid (by rw[HO.out];simp);have hoth:OthF (f1):=by rw[←HV.out];exact HTH.out
  rw[HV.out];clear HO HV HTH;exact A1r
 ·have HV:Hid (o=f1):=hid (by rw[HO.out];simp);have hoth:OthF (f1):=by rw[←HV.out];exact HTH.out
  rw[HV.out];clear HO HV HTH;exact A1r
 ·have HV:Hid (o=f1+8):=hid (by rw[HO.out];simp);have hoth:OthF (f1+8):=by rw[←HV.out];exact HTH.out
  rw[HV.out];clear HO HV HTH;exact A1r
 ·have HV:Hid (o=f1+8):=hid (by rw[HO.out];simp);have hoth:OthF (f1+8):=by rw[←HV.out];exact HTH.out
  rw[HV.out];clear HO HV HTH;exact A1r
 ·have HV:Hid (o=f1):=hid (by rw[HO.out];simp);have hoth:OthF (f1):=by rw[←HV.out];exact HTH.out
  rw[HV.out];clear HO HV HTH;exact A1r
 ·have HV:Hid (o=f1):=hid (by rw[HO.out];simp);have hoth:OthF (f1):=by rw[←HV.out];exact HTH.out
  rw[HV.out];clear HO HV HTH;exact A1r
 ·have HV:Hid (o=f1):=hid (by rw[HO.out];simp);have hoth:OthF (f1):=by rw[←HV.out];exact HTH.out
  rw[HV.out];clear HO HV HTH;exact A1r
theorem P6(n:Int)(w:World)(h:MSt base T M mv x z fl c w)(n0:0≤n)(n1:n<4294967296):Calls prog 222 #[.pointer (some ⟨T,0,none⟩),.int .u32 n] w fun e w'=>e= .returned (.int .u32 n)∧MSt base T M mv x z fl {c with f:=rsF n z 0} w'∧Ch T M mv w w':=by
 have CR:=hid (P4 n 0 w h n0 n1 (Or.inl rfl));clear h;go_enter func222,ntmps222;go_wp2_with((with_reducible refine(CR.out).mono ?_);rintro e w1 ⟨rfl,hm1,hc1⟩)
 go_ret;exact⟨rfl,hm1,hc1⟩
end
end Go.Proofs.YtajljbmeaeeknaaGreat
namespace Go.Proofs.YtajljbmeaeeknaaGreat
open Go.RowKit
set_option linter.unusedVariables false
set_option linter.unusedSimpArgs false
theorem B1G{p:Prop}(h:p:=by
 go_wp2_with fail
 exact bodyPost_ret (v:=.tuple #[]) (by simp[results,results168,go_sem]) rfl ⟨rfl,HVn.out _,((Ch.refl _ _ _ _).drewN _).setT _ _⟩
 ):p:=h
def B0u(n:Int):Int:=if 9223372036854775808≤n then n-18446744073709551616 else n
theorem A4G{n:Int}(h0:0≤n)(h1:n<18446744073709551616):wrap64 n=B0u n:=by
 unfold wrap64 B0u;split<;>omega
theorem m8{n:Int}(h0:0≤n)(h1:n<4294967296):wrap64 (wrap32 n)=G2 n:=by
 unfold wrap64 wrap32 G2;split<;>omega
theorem A4H(n:Int): -9223372036854775808≤wrap64 n∧wrap64 n≤9223372036854775807:=by
 unfold wrap64;omega
def f8(d:Nat)(c:Mac):Option Mac:=
 if c.r.getD d 0≤c.r.getD 2 0 then none else
  some {c with r:=(c.r.set 0 ((c.r.getD 2 0*4294967296+c.r.getD 0 0) / c.r.getD d 0)).set 2 ((c.r.getD 2 0*4294967296+c.r.getD 0 0)%c.r.getD d 0)}
def idA(c:Mac):Int:=B0u (c.r.getD 2 0*4294967296+c.r.getD 0 0)
def idF(a b:Int):Bool:=b==0||(a== -9223372036854775808&&b== -1|| !(decide (-2147483648≤a.tdiv b)&&decide (a.tdiv b≤2147483647)))
def x9(d:Nat)(c:Mac):Option Mac:=
 if idF (idA c) (G2 (c.r.getD d 0))=true then none else
  some {c with r:=(c.r.set 0 ((idA c).tdiv (G2 (c.r.getD d 0))%4294967296)).set 2 ((idA c).tmod (G2 (c.r.getD d 0))%4294967296)}
theorem A1c{h l:Int}(h0:0≤h)(h1:h<4294967296)(l0:0≤l)(l1:l<4294967296):bits .or .u64 (h*4294967296) l=h*4294967296+l:=by
 obtain⟨x,rfl⟩:=Int.eq_ofNat_of_zero_le h0;obtain⟨y,rfl⟩:=Int.eq_ofNat_of_zero_le l0;have hx:x*4294967296<18446744073709551616:=by omega
 have hy:y<18446744073709551616:=by omega
 have this:bits .or .u64 ((x*4294967296:Nat):Int) (y:Int)=((x*4294967296|||y:Nat):Int):=u64_or_nat _ _ hx hy;have e32:(2:Nat)^32=4294967296:=by simp
 have j1:x*4294967296%2^32=0:=by rw[e32];exact Nat.mul_mod_left _ _
 have j2:y<2^32:=by rw[e32];omega
 have hj:=nat_join 32 (x*4294967296) y j1 j2;rw[hj]at this;have e:((x*4294967296:Nat):Int)=(x:Int)*4294967296:=by omega
 rw[e]at this;rw[this,Int.natCast_add,e]
theorem tdiv_bd{a b:Int}(h: -9223372036854775808≤a∧a≤9223372036854775807)(hb:b≠0)(hn:¬(a= -9223372036854775808∧b= -1)): -9223372036854775808≤a.tdiv b∧a.tdiv b≤9223372036854775807:=by
 by_cases h1:b= -1
 ·subst h1;rw[show(-1:Int)= -(1)from rfl,Int.tdiv_neg,Int.tdiv_one];omega
 ·have e:(a.tdiv b).natAbs=a.natAbs / b.natAbs:=Int.natAbs_tdiv a b;by_cases h2:b=1
  ·subst h2;rw[Int.tdiv_one];exact h
  ·have:a.natAbs / b.natAbs≤a.natAbs / 2:=Nat.div_le_div_left (by omega) (by decide);omega
theorem tmod_bd{a b:Int}(h: -9223372036854775808≤a∧a≤9223372036854775807)(hb: -2147483648≤b∧b≤2147483647)(h0:b≠0): -9223372036854775808≤a.tmod b∧a.tmod b≤9223372036854775807:=by
 have h1:=Int.natAbs_tmod a b;have h2:=Nat.mod_lt a.natAbs (show 0<b.natAbs by omega);omega
theorem A3D{q:Int}(h: -9223372036854775808≤q∧q≤9223372036854775807):(wrap64 q !=wrap64 (wrap32 (wrap64 q)))= !(decide (-2147483648≤q)&&decide (q≤2147483647)):=by
 have e:wrap64 q=q:=IntWalk.wrap64_in _ h;rw[e];by_cases h1: -2147483648≤q
 ·by_cases h2:q≤2147483647
  ·rw[decide_eq_true h1,decide_eq_true h2,show wrap32 q=q by unfold wrap32;omega,e];simp
  ·rw[decide_eq_false h2,Bool.and_false,Bool.not_false,bne_iff_ne];unfold wrap32 wrap64;omega
 ·rw[decide_eq_false h1,Bool.false_and,Bool.not_false,bne_iff_ne];unfold wrap32 wrap64;omega
theorem B3O{p:Prop}(h:p:=by
 go_enter func168,ntmps168;go_wp2_with fail
 go_quiet(fail)
 go_upto_region 7 with fail
 rw[hA,hB];go_quiet(fail)
 exact B1G
 ):p:=h
theorem B3N{p:Prop}(h:p:=by
 go_enter func168,ntmps168;go_wp2_with fail
 go_quiet(fail)
 go_upto_region 7 with fail
 rw[hA,hB];go_quiet(fail)
 try rw[ht]
 exact B1G
 ):p:=h
theorem B3M{p:Prop}(h:p:=by
 go_enter func168,ntmps168;go_wp2_with fail
 go_quiet(fail)
 go_upto_region 7 with fail
 rw[hA,hB];go_quiet(fail)
 try rw[ht]
 go_wp2_with fail
 go_region
 go_wp2_with fail
 have e1:wrap64 (a.tdiv b)%4294967296=a.tdiv b%4294967296:=by rw[IntWalk.wrap64_in _ HQ.out]
 rw[e1];exact bodyPost_end (v:=.tuple #[]) (by simp[results,results168,go_sem]) rfl ⟨rfl,HS.out _ _ _ (Int.emod_nonneg _ (by decide)) (Int.emod_lt_of_pos _ (by decide)) (Int.emod_nonneg _ (by decide)) (Int.emod_lt_of_pos _ (by decide)),(((Ch.refl _ _ _ _).drewN _).setM _ _).setM _ _⟩
 ):p:=h
section
variable {base T M : Nat} {mv : Value} {x : Ins} {z : Int} {fl : Bool} {c : Mac}
theorem A5K(d:Nat)(hd:d<32)(w:World)(h:MSt base T M mv x z fl c w)(hxd:x.d=(d:Int))(hxo:x.o=26):Calls prog 168 #[.pointer (some ⟨T,0,none⟩)] w fun e w'=>e= .returned (.tuple #[])∧MSt base T M mv x z (match f8 d c with|none=>true|some _=>fl) ((f8 d c).getD c) w'∧Ch T M mv w w':=by
 have x1:=h.xd;rw[hxd]at x1;have x0:=h.xo;rw[hxo]at x0;have hp:=h.ptr;have hT:=h.ltT;have hM:=h.ltM;have hTM:=h.tm;have hMT:=h.tm.symm;obtain⟨hf7,hfz⟩:=h.ft;obtain⟨r0,f0⟩:=h.reg (d:=0) (by decide);obtain⟨r2,f2⟩:=h.reg (d:=2) (by decide);have rd:=(h.reg hd).1;have b0:=h.rb 0;have b2:=h.rb 2;have bd:=h.rb d;have hd1:(d:Int)<32:=by omega
 have hj:=A1c b2.1 b2.2 b0.1 b0.2;have H0:=hid h;have HV:Hid (MSt base T M mv x z true c (w.setCell ⟨T,7,none⟩ (.bool true))):=h.setV true;by_cases hle:c.r.getD d 0≤c.r.getD 2 0
 ·have hD:f8 d c=none:=by unfold f8;rw[if_pos hle]
  rw[hD];have hdl:decide (c.r.getD d 0≤c.r.getD 2 0)=true:=decide_eq_true hle;have HVn:=hid (fun n=>(h.drewN n).setV true);generalize c.r.getD d 0=by' at*
  generalize c.r.getD 2 0=hi at*
  generalize c.r.getD 0 0=lo at*
  clear h hxd hxo hD;go_enter func168,ntmps168;go_wp2_with fail
  go_quiet(fail)
  exact B1G
 ·have hD:f8 d c=some {c with r:=(c.r.set 0 ((c.r.getD 2 0*4294967296+c.r.getD 0 0) / c.r.getD d 0)).set 2 ((c.r.getD 2 0*4294967296+c.r.getD 0 0)%c.r.getD d 0)}:=by unfold f8;rw[if_neg hle]
  rw[hD];have hdl:decide (c.r.getD d 0≤c.r.getD 2 0)=false:=decide_eq_false hle;have hq:0≤(c.r.getD 2 0*4294967296+c.r.getD 0 0) / c.r.getD d 0∧(c.r.getD 2 0*4294967296+c.r.getD 0 0) / c.r.getD d 0<4294967296:=by
   refine⟨Int.ediv_nonneg (by omega) (by omega),Int.ediv_lt_of_lt_mul (by omega) ?_⟩;have:(c.r.getD 2 0+1)*4294967296≤c.r.getD d 0*4294967296:=Int.mul_le_mul_of_nonneg_right (by omega) (by omega);rw[Int.mul_comm 4294967296];omega
  have hm:0≤(c.r.getD 2 0*4294967296+c.r.getD 0 0)%c.r.getD d 0∧(c.r.getD 2 0*4294967296+c.r.getD 0 0)%c.r.getD d 0<4294967296:=by
   have h1:=Int.emod_nonneg (c.r.getD 2 0*4294967296+c.r.getD 0 0) (show c.r.getD d 0≠0 by omega);have h2:=Int.emod_lt_of_pos (c.r.getD 2 0*4294967296+c.r.getD 0 0) (show 0<c.r.getD d 0 by omega);omega
  have HVn:=hid (fun n=>((h.drewN n).setR (d:=0) (by decide) hq.1 hq.2).setR (d:=2) (by decide) hm.1 hm.2);have hnb:0≤c.r.getD 2 0*4294967296+c.r.getD 0 0∧c.r.getD 2 0*4294967296+c.r.getD 0 0<18446744073709551616:=by omega
  generalize hQ:(c.r.getD 2 0*4294967296+c.r.getD 0 0) / c.r.getD d 0=q at*
  generalize hR:(c.r.getD 2 0*4294967296+c.r.getD 0 0)%c.r.getD d 0=r at*
  have HQ:=hid hQ;have HR:=hid hR;clear hQ hR;generalize c.r.getD d 0=by' at*
  generalize c.r.getD 2 0=hi at*
  generalize c.r.getD 0 0=lo at*
  clear h hxd hxo hD;go_enter func168,ntmps168;go_wp2_with fail
  go_quiet(fail)
  go_wp2_with fail
  go_region
  go_wp2_with fail
  have e1:(hi*4294967296+lo) / by'%4294967296=q:=by rw[HQ.out];omega
  have e2:(hi*4294967296+lo)%by'%4294967296=r:=by rw[HR.out];omega
  rw[e1,e2];exact bodyPost_ret (v:=.tuple #[]) (by simp[results,results168,go_sem]) rfl ⟨rfl,HVn.out _,((((Ch.refl _ _ _ _).drewN _).setM _ _).setM _ _)⟩
theorem A5J(d:Nat)(hd:d<32)(w:World)(h:MSt base T M mv x z fl c w)(hxd:x.d=(d:Int))(hxo:x.o=27):Calls prog 168 #[.pointer (some ⟨T,0,none⟩)] w fun e w'=>e= .returned (.tuple #[])∧MSt base T M mv x z (match x9 d c with|none=>true|some _=>fl) ((x9 d c).getD c) w'∧Ch T M mv w w':=by
 have x1:=h.xd;rw[hxd]at x1;have x0:=h.xo;rw[hxo]at x0;have hp:=h.ptr;have hT:=h.ltT;have hM:=h.ltM;have hTM:=h.tm;have hMT:=h.tm.symm;obtain⟨hf7,hfz⟩:=h.ft;obtain⟨r0,f0⟩:=h.reg (d:=0) (by decide);obtain⟨r2,f2⟩:=h.reg (d:=2) (by decide);have rd:=(h.reg hd).1;have b0:=h.rb 0;have b2:=h.rb 2;have bd:=h.rb d;have hd1:(d:Int)<32:=by omega
 have hj:=A1c b2.1 b2.2 b0.1 b0.2;have H0:=hid h;have HVn:=hid (fun n=>(h.drewN n).setV true);have hA:wrap64 (c.r.getD 2 0*4294967296+c.r.getD 0 0)=idA c:=A4G (by omega) (by omega);have hB:wrap64 (wrap32 (c.r.getD d 0))=G2 (c.r.getD d 0):=m8 bd.1 bd.2;have hab: -9223372036854775808≤idA c∧idA c≤9223372036854775807:=by rw[←hA];exact A4H _
 have hbb: -2147483648≤G2 (c.r.getD d 0)∧G2 (c.r.getD d 0)≤2147483647:=by unfold G2;split<;>omega
 have hD:x9 d c=if idF (idA c) (G2 (c.r.getD d 0))=true then none else some {c with r:=(c.r.set 0 ((idA c).tdiv (G2 (c.r.getD d 0))%4294967296)).set 2 ((idA c).tmod (G2 (c.r.getD d 0))%4294967296)}:=rfl
 rw[hD];have HS:=hid (fun n (q r:Int) (q0:0≤q) (q1:q<4294967296) (r0:0≤r) (r1:r<4294967296)=>((h.drewN n).setR (d:=0) (by decide) q0 q1).setR (d:=2) (by decide) r0 r1);clear hD;generalize idA c=a at*
 generalize G2 (c.r.getD d 0)=b at*
 generalize c.r.getD d 0=by' at*
 generalize c.r.getD 2 0=hi at*
 generalize c.r.getD 0 0=lo at*
 clear h;have HF:Hid (idF a b=(b==0||(a== -9223372036854775808&&b== -1|| !(decide (-2147483648≤a.tdiv b)&&decide (a.tdiv b≤2147483647))))):=rfl;obtain⟨ff,hff⟩:∃q,idF a b=q:=⟨_,rfl⟩
 rw[hff];rw[hff]at HF;clear hff;cases p0:(b==0)
 rotate_left
 ·obtain rfl:ff=true:=by rw[HF.out,p0];rfl
  rw[if_pos rfl];exact B3O
 have hb0:b≠0:=by simpa using p0
 cases p1:(a== -9223372036854775808)
 ·have ha1:a≠-9223372036854775808:=by simpa using p1
  have htd:=tdiv_bd hab hb0 (fun e=>ha1 e.1);have htm:=tmod_bd hab hbb hb0;have HQ:=hid htd;have HM:=hid htm;have ht:(wrap64 (a.tdiv b) !=wrap64 (wrap32 (wrap64 (a.tdiv b))))=ff:=by rw[A3D htd,HF.out,p0,p1];simp
  clear htd htm ha1;cases ff
  ·rw[if_neg (by simp)];exact B3M
  ·rw[if_pos rfl];exact B3N
 ·cases p2:(b== -1)
  ·have hb1:b≠-1:=by simpa using p2
   have htd:=tdiv_bd hab hb0 (fun e=>hb1 e.2);have htm:=tmod_bd hab hbb hb0;have HQ:=hid htd;have HM:=hid htm;have ht:(wrap64 (a.tdiv b) !=wrap64 (wrap32 (wrap64 (a.tdiv b))))=ff:=by rw[A3D htd,HF.out,p0,p1,p2];simp
   clear htd htm hb1;cases ff
   ·rw[if_neg (by simp)];exact B3M
   ·rw[if_pos rfl];exact B3N
  ·obtain rfl:ff=true:=by rw[HF.out,p0,p1,p2];rfl
   rw[if_pos rfl];exact B3O
end
end Go.Proofs.YtajljbmeaeeknaaGreat
namespace Go.Proofs.YtajljbmeaeeknaaGreat
open Go.RowKit
set_option linter.unusedVariables false
set_option linter.unusedSimpArgs false
theorem B3p{p:Prop}(h:p:=by
 refine O4 21 (by kernel_rfl) (by kernel_rfl) ?_;dsimp only[List.take,List.drop]
 repeat(quiet_step (first|(go_at_call 169;with_reducible exact E9 (HF1.out _ _))))
 refine wpQuiet_nil ?_;intro _ hw';obtain⟨k3,hw''⟩:=hw';subst hw'';go_wp2_with fail
 exact bodyPost_end (v:=.tuple #[]) (by simp[results,results165,go_sem]) rfl ⟨rfl,by first|exact HFF.out k3|simpa using HFF.out k3,hc2.trans (((Ch.refl _ _ _ _).drewN _).setM _ _)⟩
 ):p:=h
def A9C(p:Int):Bool:=decide (-2147483648≤p)&&decide (p≤2147483647)
def A6W(d s:Nat)(c:Mac):Mac:=
 {c with
  r:=c.r.set d (G2 (c.r.getD d 0)*G2 (c.r.getD s 0)%4294967296)
  f:=c.f / 2%4*2+(if A9C (G2 (c.r.getD d 0)*G2 (c.r.getD s 0))=true then 0 else 9)}
theorem B2a{f:Int}(h0:0≤f)(h1:f≤15):bits .and .i64 f 6=f / 2%4*2:=by
 have:f=0∨f=1∨f=2∨f=3∨f=4∨f=5∨f=6∨f=7∨f=8∨f=9∨f=10∨f=11∨f=12∨f=13∨f=14∨f=15:=by omega
 rcases this with rfl|rfl|rfl|rfl|rfl|rfl|rfl|rfl|rfl|rfl|rfl|rfl|rfl|rfl|rfl|rfl<;>decide
theorem B5R{f:Int}(h0:0≤f)(h1:f≤15)(b:Bool):bits .or .i64 (f / 2%4*2) (if b=true then 9 else 0)=f / 2%4*2+(if b=true then 9 else 0):=by
 have:f / 2%4*2=0∨f / 2%4*2=2∨f / 2%4*2=4∨f / 2%4*2=6:=by omega
 rcases this with h|h|h|h<;>rw[h]<;>cases b<;>decide
theorem A3r{n:Int}(h0:0≤n)(h1:n<4294967296): -2147483648≤G2 n∧G2 n≤2147483647:=by unfold G2;split<;>omega
theorem mul_bd{a b:Int}(ha: -2147483648≤a∧a≤2147483647)(hb: -2147483648≤b∧b≤2147483647): -9223372036854775808≤a*b∧a*b≤9223372036854775807:=by
 have h:(a*b).natAbs=a.natAbs*b.natAbs:=Int.natAbs_mul a b;have h2:a.natAbs*b.natAbs≤2147483648*2147483648:=Nat.mul_le_mul (by omega) (by omega);omega
section
variable {base T M : Nat} {mv : Value} {x : Ins} {z : Int} {fl : Bool} {c : Mac}
theorem A0r(d s:Nat)(hd:d<32)(hs:s<32)(w:World)(h:MSt base T M mv x z fl c w)(hxd:x.d=(d:Int))(hxs:x.s=(s:Int)):Calls prog 165 #[.pointer (some ⟨T,0,none⟩)] w fun e w'=>e= .returned (.tuple #[])∧MSt base T M mv x z fl (A6W d s c) w'∧Ch T M mv w w':=by
 have x1:=h.xd;rw[hxd]at x1;have x2:=h.xs;rw[hxs]at x2;have hp:=h.ptr;have hT:=h.ltT;have hM:=h.ltM;have hTM:=h.tm;have hMT:=h.tm.symm;obtain⟨rd,fd⟩:=h.reg hd;have rs:=(h.reg hs).1;have bd:=h.rb d;have bs:=h.rb s;have hd1:(d:Int)<32:=by omega
 have hs1:(s:Int)<32:=by omega
 obtain⟨hf,hff⟩:=h.flg;have hfb:=h.fb;have hA:wrap64 (wrap32 (c.r.getD d 0))=G2 (c.r.getD d 0):=m8 bd.1 bd.2;have hB:wrap64 (wrap32 (c.r.getD s 0))=G2 (c.r.getD s 0):=m8 bs.1 bs.2;have hab:=A3r bd.1 bd.2;have hbb:=A3r bs.1 bs.2;have hP:=mul_bd hab hbb;have hW:wrap64 (G2 (c.r.getD d 0)*G2 (c.r.getD s 0))=G2 (c.r.getD d 0)*G2 (c.r.getD s 0):=IntWalk.wrap64_in _ hP;have H6:=hid (B2a hfb.1 hfb.2);have H9:=hid (B5R hfb.1 hfb.2);have HS:=hid (fun n (q f:Int) (q0:0≤q) (q1:q<4294967296) (f0:0≤f) (f1:f≤15) (m:Nat)=>((((h.drewN n).setR (d:=d) hd q0 q1).drewN m).setF f0 f1));have HS2:=hid (fun n=>(h.drewN n).setR (d:=d) hd (Int.emod_nonneg (G2 (c.r.getD d 0)*G2 (c.r.getD s 0)) (by decide:(4294967296:Int)≠0)) (Int.emod_lt_of_pos _ (by decide)));have HE:Hid (A6W d s c={c with r:=c.r.set d (G2 (c.r.getD d 0)*G2 (c.r.getD s 0)%4294967296),f:=c.f / 2%4*2+(if A9C (G2 (c.r.getD d 0)*G2 (c.r.getD s 0))=true then 0 else 9)}):=rfl;rw[HE.out];have hfit:(G2 (c.r.getD d 0)*G2 (c.r.getD s 0) !=wrap64 (wrap32 (G2 (c.r.getD d 0)*G2 (c.r.getD s 0))))= !(A9C (G2 (c.r.getD d 0)*G2 (c.r.getD s 0))):=by
  have:=A3D hP;rw[hW]at this;exact this
 have HH:=hid hW;have HFI:=hid hfit;have HA:=hid hA;have HB:=hid hB;clear hW hfit hA hB hab hbb HE;generalize G2 (c.r.getD d 0)=a at*
 generalize G2 (c.r.getD s 0)=b at*
 obtain⟨P,hPe⟩:∃P,a*b=P:=⟨_,rfl⟩
 rw[hPe]at hP HH HFI HS2⊢;have HPE:=hid hPe;obtain⟨ft,hft⟩:∃q,A9C P=q:=⟨_,rfl⟩
 rw[hft]at HFI⊢;have hcd:c.r.getD d 0=c.r.getD d 0:=rfl;generalize c.r.getD s 0=rsv at*
 generalize hrd:c.r.getD d 0=rdv at*
 have HF1:=hid (fun b wk=>M7 b 9 wk);clear hPe hft hcd hrd h;go_enter func165,ntmps165;go_wp2_with fail
 go_quiet(fail)
 revert nq;intro k1;go_upto_region 1 with fail
 rw[HA.out,HB.out,HPE.out,HH.out];refine O4 14 (by kernel_rfl) (by kernel_rfl) ?_;simp only[List.take_succ_cons,List.take_zero,List.drop_succ_cons,List.drop_zero]
 repeat(quiet_step (fail))
 refine wpQuiet_nil ?_;intro _ hw';obtain⟨k2,hw''⟩:=hw';subst hw'';go_upto_region 2 with fail
 have hm2:=HS2.out (k1+k2);have hc2:Ch T M mv w ((w.drewN (k1+k2)).setCell ⟨M,d,none⟩ (.int .u32 (P%4294967296))):=((Ch.refl _ _ _ _).drewN _).setM _ _;generalize(w.drewN (k1+k2)).setCell ⟨M,d,none⟩ (.int .u32 (P%4294967296))=W2 at*
 have hp2:=hm2.ptr;have hT2:=hm2.ltT;have hM2:=hm2.ltM;obtain⟨hf2,hff2⟩:=hm2.flg;have hf2':W2.cell? ⟨M,32,none⟩=some (.int .i64 c.f):=hf2;have H62:=H6.out;have HS3:=hid hm2;clear hm2 hf2 hp hf hff rd fd rs x1 x2 hT hM;have hbt:(P !=IntKind.i64.wrap (IntKind.i32.wrap P))= !ft:=by rw[IntKind.wrap_i64,IntKind.wrap_i32];have h9:=HFI.out;unfold wrap64 wrap32 at h9;exact h9
 cases ft
 ·have h9:bits .or .i64 (c.f / 2%4*2) 9=c.f / 2%4*2+9:=H9.out true;have hbd:0≤c.f / 2%4*2+9∧c.f / 2%4*2+9≤15:=by omega
  have HFF:=hid (fun n=>(HS3.out.drewN n).setF hbd.1 hbd.2);have e0:(!false)=true:=rfl;rw[e0]at hbt;clear hfb hP hd1 hs1 hbd e0;exact B3p
 ·have h9:bits .or .i64 (c.f / 2%4*2) 0=c.f / 2%4*2+0:=H9.out false;have hbd:0≤c.f / 2%4*2+0∧c.f / 2%4*2+0≤15:=by omega
  have HFF:=hid (fun n=>(HS3.out.drewN n).setF hbd.1 hbd.2);have e0:(!true)=false:=rfl;rw[e0]at hbt;clear hfb hP hd1 hs1 hbd e0;exact B3p
end
end Go.Proofs.YtajljbmeaeeknaaGreat
namespace Go.Proofs.YtajljbmeaeeknaaGreat
open Go.RowKit Go.Maps
set_option linter.unusedVariables false
set_option linter.unusedSimpArgs false
theorem OInts.made8{w:World}{base g n:Nat}{e:TypeId}{k:IntKind}(h:w.ownsRow base e 1 (.slice (some ⟨g,0,none⟩) n n) n (madeCells #[Value.int k 0] n).toList):OInts k w g (List.replicate n 0):=by
 refine⟨(h.lt g rfl).2,fun i hi=>?_⟩;rw[List.length_replicate]at hi;refine⟨?_,h.frozenAt i⟩;rw[h.cellAt i (by omega)];rw[toList_madeCells_one,List.getElem?_replicate,if_pos hi,List.getD_eq_getElem?_getD,List.getElem?_replicate,if_pos hi];rfl
theorem A2q{w w':World}(h:w.grownBy w' none):Below w.heap.size w w':=(Below.refl _ _).grown h (Nat.le_refl _) (fun k hk=>by cases hk)
def atM(c:Mac)(s:Nat)(i:Int):Int:=(c.r.getD s 0+i)%4294967296
section
variable {base T M : Nat} {mv : Value} {x : Ins} {z : Int} {fl : Bool} {c : Mac}
theorem N4(s k:Nat)(hs:s<32)(hk:k≤4)(w:World)(h:MSt base T M mv x z fl c w)(hi:I64 x.i)(hbad:(c.m.length:Int)<atM c s x.i+k):Calls prog 162 #[.pointer (some ⟨T,0,none⟩),.int .i64 (s:Int),.int .i64 (k:Int)] w fun e w'=>∃g,e= .returned (.slice (some ⟨g,0,none⟩) k k)∧OInts .u8 w' g (List.replicate k 0)∧w.heap.size≤g∧MSt base T M mv x z true c w'∧Ch T M mv w w':=by
 obtain⟨i0,hi0,hz0,hz1,hz2⟩:=info_parts J2;have x5:=h.xi;have hp:=h.ptr;have hT:=h.ltT;have hM:=h.ltM;have hTM:=h.tm;have hMT:=h.tm.symm;obtain⟨hf7,hfz⟩:=h.ft;have rs:=(h.reg hs).1;have bs:=h.rb s;have hs1:(s:Int)<32:=by omega
 have hmem:=h.mem.1;obtain⟨va,vc,hmv,hl1,hl2⟩:=h.ints.shape;have hml:=h.ml;rw[hmv]at hmem;have HVn:=hid (fun n=>(h.drewN n).setV true);have hat0:0≤atM c s x.i∧atM c s x.i<4294967296:=⟨Int.emod_nonneg _ (by decide),Int.emod_lt_of_pos _ (by decide)⟩
 have HAT:Hid (atM c s x.i=(c.r.getD s 0+x.i)%4294967296):=rfl;obtain⟨q,hq⟩:∃q,atM c s x.i=q:=⟨_,rfl⟩
 rw[hq]at hbad hat0 HAT;clear hq hmv;generalize c.r.getD s 0=a at*
 generalize hxi:x.i=i at*
 generalize c.m.length=len at*
 clear hxi;go_enter func162,ntmps162;go_wp2_with fail
 go_quiet(fail)
 go_upto_region 2 with fail
 have hAe:(a+i%4294967296)%4294967296=q:=by rw[HAT.out];omega
 rw[hAe];have hdb:decide ((len:Int)<q+k)=true:=decide_eq_true hbad;clear hAe hi HAT;have hm3:=HVn.out nq;have hw3:((w.drewN nq).setCell ⟨T,7,none⟩ (.bool true)).heap.size=w.heap.size:=by simp[World.setCell]
 go_wp2_with(at_make;refine wpList_make_full _ rfl _ _ 28 rfl (w.heap.size) 5 i0 (.int .u8 0) 1 underlying28 hi0 hz0 hz1 .i64 .i64 _ _ k rfl rfl rfl rfl ?d1 ?d2 ?d3 ?_)
 case d1=>rw[hz2];omega
 case d2=>unfold maxLen;omega
 case d3=>exact Nat.le_of_eq hw3.symm
 intro w2 hown hgr;have hO:=OInts.made8 hown;have hb2:=A2q hgr;have HM2:=hid (hm3.same hb2);go_wp2_with fail
 go_ret;exact⟨_,rfl,hO,by omega,HM2.out,(((Ch.refl _ _ _ _).drewN nq).setT _ _).trans (Ch.of_below hb2)⟩
theorem P5(s k:Nat)(hs:s<32)(hk0:0<k)(hk:k≤4)(w:World)(h:MSt base T M mv x z fl c w)(D cap:Nat)(hmv:mv= .slice (some ⟨D,0,none⟩) c.m.length cap)(hcap:c.m.length≤cap)(hc2:cap≤9223372036854775807)(q:Nat)(hq:atM c s x.i=(q:Int))(hgood:q+k≤c.m.length):Calls prog 162 #[.pointer (some ⟨T,0,none⟩),.int .i64 (s:Int),.int .i64 (k:Int)] w fun e w'=>e= .returned (.slice (some ⟨D,q,none⟩) k (cap-q))∧Dr w w':=by
 have x5:=h.xi;have hp:=h.ptr;have hT:=h.ltT;have hM:=h.ltM;have hTM:=h.tm;have hMT:=h.tm.symm;have rs:=(h.reg hs).1;have bs:=h.rb s;have hs1:(s:Int)<32:=by omega
 have hmem:=h.mem.1;have hml:=h.ml;rw[hmv]at hmem;have HAT:Hid ((q:Int)=(c.r.getD s 0+x.i)%4294967296):=hq.symm;clear hq hmv h;generalize c.r.getD s 0=a at*
 generalize hxi:x.i=i at*
 generalize c.m.length=len at*
 clear hxi;go_enter func162,ntmps162;go_wp2_with fail
 go_quiet(fail)
 go_upto_region 2 with fail
 have hAe:(a+i%4294967296)%4294967296=(q:Int):=by rw[HAT.out];omega
 rw[hAe];have hdb:decide ((len:Int)<(q:Int)+k)=false:=decide_eq_false (by omega);have hq1:q≤q+k:=by omega
 have hq2:q+k≤cap:=by omega
 have hq3:¬cap=q:=by omega
 clear hAe HAT;go_wp2_with fail
 rw[show q+k-q=k by omega];go_ret;exact⟨rfl,_,rfl⟩
end
end Go.Proofs.YtajljbmeaeeknaaGreat
