/- -/
import Derived.Test.YtdojafpjipcbjaaGreatK13
open Go.Proofs.Tryz
open Go.Lib (hid)
set_option maxHeartbeats 1000000
set_option maxRecDepth 100000
namespace Go.Proofs.YtdojafpjipcbjaaGreat
open Go.RowKit
set_option linter.unusedVariables false
set_option linter.unusedSimpArgs false
theorem A6A{p:Prop}(h:p:=by
 go_wp2_with((with_reducible first|refine(CH.out).mono ?_|refine(CF.out).mono ?_);rintro e w' ⟨rfl,rfl⟩)
 go_roundw
 case rel=>exact⟨j+1,by omega,by rw[HS.out,HN.out];first|rfl|simp,by rw[HS.out,HN.out],by go_num,by first|rfl|trivial⟩
 case measure=>simp[intOf];omega
 ):p:=h
theorem A8v{p:Prop}(h:p:=by
 go_wp2_with(first|((with_reducible refine(CS.out).mono ?_);rintro e w2 ⟨rfl,hm2,hc2⟩)|((with_reducible refine(CF1.out _).mono ?_);rintro e w' ⟨rfl,rfl⟩)|((with_reducible refine(CR.out _ _ hm2).mono ?_);rintro e w3 ⟨rfl,hm3,hc3⟩))
 exact bodyPost_end (v:=.tuple #[]) (by simp[results,results78,go_sem]) rfl ⟨rfl,hm3,(((Ch.refl _ _ _ _).drewN n1).trans hc2).trans hc3⟩
 ):p:=h
theorem A8l{p:Prop}(h:p:=by
 subst hk0;rw[if_pos rfl];go_enter func78,ntmps78;go_wp2_with((with_reducible refine(CG.out).mono ?_);rintro e w1 ⟨rfl,n1,rfl⟩)
 exact bodyPost_ret (v:=.tuple #[]) (by simp[results,results78,go_sem]) rfl ⟨rfl,H0.out.drewN _,(Ch.refl _ _ _ _).drewN _⟩
 ):p:=h
theorem A4U{p:Prop}(h:p:=by
 unfold shM;rw[hk2,Int.toNat_natCast];by_cases e:k=0
 ·rw[if_pos e,if_pos (by omega)]
 ·rw[if_neg e,if_neg (by omega)]
 ):p:=h
def P1(op z n:Int):Int×Bool:=
 if op=21 then((2*n)%pwZ z,hiB n z)else if op=22 then(n / 2,n%2==1)else(n / 2+(if hiB n z=true then pwZ z / 2 else 0),n%2==1)
def shN(op z a:Int):Nat→Int×Bool
 |0=>(a,false)
 |k+1=>P1 op z (shN op z a k).1
theorem M5{n z:Int}(hz:z=16∨z=32)(h0:0≤n)(h1:n<pwZ z):hiB n z=decide (pwZ z / 2≤n):=by
 unfold hiB;rcases hz with rfl|rfl
 ·have h1':n<65536:=h1;show(n / 32768%2==1)=decide (32768≤n)
  by_cases h:32768≤n
  ·rw[decide_eq_true h,show n / 32768=1 by omega];rfl
  ·rw[decide_eq_false h,show n / 32768=0 by omega];rfl
 ·have h1':n<4294967296:=h1;show(n / 2147483648%2==1)=decide (2147483648≤n)
  by_cases h:2147483648≤n
  ·rw[decide_eq_true h,show n / 2147483648=1 by omega];rfl
  ·rw[decide_eq_false h,show n / 2147483648=0 by omega];rfl
theorem A5e{op z n:Int}(hz:z=16∨z=32)(h0:0≤n)(h1:n<pwZ z):0≤(P1 op z n).1∧(P1 op z n).1<pwZ z:=by
 have hp:=(D6 hz).1;have he:pwZ z=2*(pwZ z / 2):=by rcases hz with rfl|rfl<;>decide
 unfold P1
 split
 ·exact⟨Int.emod_nonneg _ (by omega),Int.emod_lt_of_pos _ hp⟩
 ·split
  ·simp only;omega
  ·simp only;split<;>omega
theorem N4{op z a:Int}(hz:z=16∨z=32)(h0:0≤a)(h1:a<pwZ z)(k:Nat):0≤(shN op z a k).1∧(shN op z a k).1<pwZ z:=by
 induction k with
 |zero=>exact⟨h0,h1⟩
 |succ k ih=>exact A5e hz ih.1 ih.2
theorem A5d(n z:Int)(hz:z=16∨z=32):bits .and .u32 (n*2%4294967296) (pwZ z-1)=(2*n)%pwZ z:=by
 have:=U8 (n*2) z hz;rw[IntKind.wrap_u32]at this;rw[this,Int.mul_comm]
theorem A4I{n z:Int}(hz:z=16∨z=32)(h0:0≤n)(h1:n<pwZ z)(b:Bool):bits .or .u32 (n / 2) (if b=true then pwZ z / 2 else 0)=n / 2+(if b=true then pwZ z / 2 else 0):=by
 obtain⟨m,rfl⟩:=Int.eq_ofNat_of_zero_le h0;rw[show(m:Int) / 2=((m / 2:Nat):Int)by omega];cases b
 ·have:=u32_or_nat (m / 2) 0 (by have:=(D6 hz).2.1;omega) (by decide);simpa using this
 ·rcases hz with rfl|rfl
  ·have h1':(m:Int)<65536:=h1;have:=u32_or_nat (m / 2) 32768 (by omega) (by decide);rw[Nat.or_comm,nat_join 15 32768 (m / 2) (by decide) (by omega)]at this;show bits .or .u32 ((m / 2:Nat):Int) 32768=((m / 2:Nat):Int)+32768
   rw[show((32768:Nat):Int)=32768 from rfl]at this;rw[this];omega
  ·have h1':(m:Int)<4294967296:=h1;have:=u32_or_nat (m / 2) 2147483648 (by omega) (by decide);rw[Nat.or_comm,nat_join 31 2147483648 (m / 2) (by decide) (by omega)]at this;show bits .or .u32 ((m / 2:Nat):Int) 2147483648=((m / 2:Nat):Int)+2147483648
   rw[show((2147483648:Nat):Int)=2147483648 from rfl]at this;rw[this];omega
def shM(op z:Int)(d:Nat)(c:Mac):Mac:=
 if(c.r.getD 1 0)%32=0 then c else{c with
  r:=c.r.set d (wrR (c.r.getD d 0) (shN op z (c.r.getD d 0%pwZ z) ((c.r.getD 1 0)%32).toNat).1 z)
  f:=rsF (shN op z (c.r.getD d 0%pwZ z) ((c.r.getD 1 0)%32).toNat).1 z (if(shN op z (c.r.getD d 0%pwZ z) ((c.r.getD 1 0)%32).toNat).2=true then 1 else 0)}
section
variable {base T M : Nat} {mv : Value} {x : Ins} {z : Int} {fl : Bool} {c : Mac}
theorem A4B(d:Nat)(hd:d<32)(w:World)(h:MSt base T M mv x z fl c w)(hxd:x.d=(d:Int))(hxo:x.o=21):Calls prog 78 #[.pointer (some ⟨T,0,none⟩)] w fun e w'=>e= .returned (.tuple #[])∧MSt base T M mv x z fl (shM 21 z d c) w'∧Ch T M mv w w':=by
 have hpw:=D6 h.zz;have HZ:=hid h.zz;have HPW:=hid hpw;have x1:=h.xd;rw[hxd]at x1;have x0:=h.xo;rw[hxo]at x0;have hp:=h.ptr;have hsz:=h.sz;have hT:=h.ltT;have hM:=h.ltM;have hr1:=(h.reg (d:=1) (by decide)).1;have hb1:=h.rb 1;have CG:=hid (F8 d hd w h);have H0:=hid h;have HQ:Hid (∀c',c'=shM 21 z d c→MSt base T M mv x z fl c'=MSt base T M mv x z fl (shM 21 z d c)):=fun c' e=>by rw[e]
 have hand:=O9 (c.r.getD 1 0).toNat 5 (by omega) (by decide);rw[show(((c.r.getD 1 0).toNat:Nat):Int)=c.r.getD 1 0 by omega]at hand;have hand2:bits .and .u32 (c.r.getD 1 0) 31=(((c.r.getD 1 0).toNat%32:Nat):Int):=hand;obtain⟨k,hk⟩:∃k,(c.r.getD 1 0).toNat%32=k:=⟨_,rfl⟩
 rw[hk]at hand2;have hk2:c.r.getD 1 0%32=(k:Int):=by omega
 have hklt:k<32:=by omega
 have hsh:shM 21 z d c=if k=0 then c else{c with r:=c.r.set d (wrR (c.r.getD d 0) (shN 21 z (c.r.getD d 0%pwZ z) k).1 z),f:=rsF (shN 21 z (c.r.getD d 0%pwZ z) k).1 z (if(shN 21 z (c.r.getD d 0%pwZ z) k).2=true then 1 else 0)}:=by
  exact A4U
 rw[hsh];have a0:0≤c.r.getD d 0%pwZ z:=Int.emod_nonneg _ (by omega);have a1:c.r.getD d 0%pwZ z<pwZ z:=Int.emod_lt_of_pos _ hpw.1;have HBD:=hid (fun j=>N4 (op:=21) h.zz a0 a1 j);have CS0:Hid (∀n,0≤n→n<4294967296→∀wk,MSt base T M mv x z fl c wk→Calls prog 71 #[.pointer (some ⟨T,0,none⟩),.int .i64 (d:Int),.int .u32 n] wk fun e w'=>e= .returned (.tuple #[])∧MSt base T M mv x z fl {c with r:=c.r.set d (wrR (c.r.getD d 0) n z)} w'∧Ch T M mv wk w'):=fun n n0 n1 wk hk=>G1 d hd n wk hk n0 n1
 generalize hA:c.r.getD d 0%pwZ z=a at*
 clear hxd hxo hand hk hk2 hsh hA h;generalize c.r.getD 1 0=r1 at*
 by_cases hk0:k=0
 ·exact A8l
 rw[if_neg hk0];obtain⟨nf,hnf⟩:∃q,(shN 21 z a k).1=q:=⟨_,rfl⟩
 obtain⟨lf,hlf⟩:∃q,(shN 21 z a k).2=q:=⟨_,rfl⟩
 obtain⟨of,hof⟩:∃q,(if lf=true then(1:Int)else 0)=q:=⟨_,rfl⟩
 rw[hnf,hlf,hof];have CF1:=hid (fun wk=>K5 lf 1 wk);rw[hof]at CF1;have HOF:Hid (OthF of):=hid (by rw[←hof];unfold OthF;cases lf<;>simp);have HNF:=hid hnf;have HLF:=hid hlf;clear hnf hlf hof;have hkb:((k:Int)==0)=false:=by simpa using hk0
 go_enter func78,ntmps78;go_wp2_with((with_reducible refine(CG.out).mono ?_);rintro e w1 ⟨rfl,n1,rfl⟩)
 go_loopw[2,4,25] (fun n l i wr=>∃j:Nat,j≤k∧n= .int .u32 (shN 21 z a j).1∧l= .bool (shN 21 z a j).2∧i= .int .u32 j∧wr=w.drewN n1) (fun _ _ i _=>k-(intOf i).toNat)
 case atStart=>exact⟨0,Nat.zero_le _,rfl,rfl,rfl,rfl⟩
 case round=>
  obtain⟨j,hj,rfl,rfl,rfl,rfl⟩:=hrel;have hb:=HBD.out j;have hpp:=HPW.out;by_cases hlt:j<k
  ·have HS:Hid (shN 21 z a (j+1)=P1 21 z (shN 21 z a j).1):=rfl;generalize(shN 21 z a j).2=lb at*
   generalize(shN 21 z a j).1=n at*
   have hlt':decide ((j:Int)<k)=true:=decide_eq_true (by omega);have hw:(j:Int)+1<4294967296:=by omega
   have CH:=hid (L7 n _ (H0.out.drewN n1) hb.1 (by omega));have CM:=hid (P8 _ (H0.out.drewN n1));have HSA:=hid (A5d n z HZ.out);have HN:Hid (P1 21 z n=((2*n)%pwZ z,hiB n z)):=rfl;generalize hiB n z=hb1 at*
   go_wp2_with((with_reducible first|refine(CH.out).mono ?_|refine(CM.out).mono ?_);rintro e w' ⟨rfl,rfl⟩)
   go_roundw
   case rel=>exact⟨j+1,by omega,by rw[HS.out,HN.out];simp only;rw[HSA.out],by rw[HS.out,HN.out],by go_num,by first|rfl|trivial⟩
   case measure=>simp[intOf];omega
  ·obtain rfl:j=k:=by omega
   have hd':decide ((j:Int)<j)=false:=decide_eq_false (by omega);rw[HNF.out]at hb⊢;rw[HLF.out];have CS:=hid (CS0.out nf hb.1 (by omega) _ (H0.out.drewN n1));have CR:=hid (fun(c':Mac) wk (hk:MSt base T M mv x z fl c' wk)=>M1 nf of wk hk hb.1 (by omega) HOF.out);exact A8v
theorem A4A(d:Nat)(hd:d<32)(w:World)(h:MSt base T M mv x z fl c w)(hxd:x.d=(d:Int))(hxo:x.o=22):Calls prog 78 #[.pointer (some ⟨T,0,none⟩)] w fun e w'=>e= .returned (.tuple #[])∧MSt base T M mv x z fl (shM 22 z d c) w'∧Ch T M mv w w':=by
 have hpw:=D6 h.zz;have HZ:=hid h.zz;have HPW:=hid hpw;have x1:=h.xd;rw[hxd]at x1;have x0:=h.xo;rw[hxo]at x0;have hp:=h.ptr;have hsz:=h.sz;have hT:=h.ltT;have hM:=h.ltM;have hr1:=(h.reg (d:=1) (by decide)).1;have hb1:=h.rb 1;have CG:=hid (F8 d hd w h);have H0:=hid h;have HQ:Hid (∀c',c'=shM 22 z d c→MSt base T M mv x z fl c'=MSt base T M mv x z fl (shM 22 z d c)):=fun c' e=>by rw[e]
 have hand:=O9 (c.r.getD 1 0).toNat 5 (by omega) (by decide);rw[show(((c.r.getD 1 0).toNat:Nat):Int)=c.r.getD 1 0 by omega]at hand;have hand2:bits .and .u32 (c.r.getD 1 0) 31=(((c.r.getD 1 0).toNat%32:Nat):Int):=hand;obtain⟨k,hk⟩:∃k,(c.r.getD 1 0).toNat%32=k:=⟨_,rfl⟩
 rw[hk]at hand2;have hk2:c.r.getD 1 0%32=(k:Int):=by omega
 have hklt:k<32:=by omega
 have hsh:shM 22 z d c=if k=0 then c else{c with r:=c.r.set d (wrR (c.r.getD d 0) (shN 22 z (c.r.getD d 0%pwZ z) k).1 z),f:=rsF (shN 22 z (c.r.getD d 0%pwZ z) k).1 z (if(shN 22 z (c.r.getD d 0%pwZ z) k).2=true then 1 else 0)}:=by
  exact A4U
 rw[hsh];have a0:0≤c.r.getD d 0%pwZ z:=Int.emod_nonneg _ (by omega);have a1:c.r.getD d 0%pwZ z<pwZ z:=Int.emod_lt_of_pos _ hpw.1;have HBD:=hid (fun j=>N4 (op:=22) h.zz a0 a1 j);have CS0:Hid (∀n,0≤n→n<4294967296→∀wk,MSt base T M mv x z fl c wk→Calls prog 71 #[.pointer (some ⟨T,0,none⟩),.int .i64 (d:Int),.int .u32 n] wk fun e w'=>e= .returned (.tuple #[])∧MSt base T M mv x z fl {c with r:=c.r.set d (wrR (c.r.getD d 0) n z)} w'∧Ch T M mv wk w'):=fun n n0 n1 wk hk=>G1 d hd n wk hk n0 n1
 generalize hA:c.r.getD d 0%pwZ z=a at*
 clear hxd hxo hand hk hk2 hsh hA h;generalize c.r.getD 1 0=r1 at*
 by_cases hk0:k=0
 ·exact A8l
 rw[if_neg hk0];obtain⟨nf,hnf⟩:∃q,(shN 22 z a k).1=q:=⟨_,rfl⟩
 obtain⟨lf,hlf⟩:∃q,(shN 22 z a k).2=q:=⟨_,rfl⟩
 obtain⟨of,hof⟩:∃q,(if lf=true then(1:Int)else 0)=q:=⟨_,rfl⟩
 rw[hnf,hlf,hof];have CF1:=hid (fun wk=>K5 lf 1 wk);rw[hof]at CF1;have HOF:Hid (OthF of):=hid (by rw[←hof];unfold OthF;cases lf<;>simp);have HNF:=hid hnf;have HLF:=hid hlf;clear hnf hlf hof;have hkb:((k:Int)==0)=false:=by simpa using hk0
 go_enter func78,ntmps78;go_wp2_with((with_reducible refine(CG.out).mono ?_);rintro e w1 ⟨rfl,n1,rfl⟩)
 go_loopw[2,4,25] (fun n l i wr=>∃j:Nat,j≤k∧n= .int .u32 (shN 22 z a j).1∧l= .bool (shN 22 z a j).2∧i= .int .u32 j∧wr=w.drewN n1) (fun _ _ i _=>k-(intOf i).toNat)
 case atStart=>exact⟨0,Nat.zero_le _,rfl,rfl,rfl,rfl⟩
 case round=>
  obtain⟨j,hj,rfl,rfl,rfl,rfl⟩:=hrel;have hb:=HBD.out j;have hpp:=HPW.out;by_cases hlt:j<k
  ·have HS:Hid (shN 22 z a (j+1)=P1 22 z (shN 22 z a j).1):=rfl;generalize(shN 22 z a j).2=lb at*
   generalize(shN 22 z a j).1=n at*
   have hlt':decide ((j:Int)<k)=true:=decide_eq_true (by omega);have hw:(j:Int)+1<4294967296:=by omega
   have HN:Hid (P1 22 z n=(n / 2,n%2==1)):=rfl;have hne:=V9 n hb.1 (by omega);go_wp2_with fail
   go_roundw
   case rel=>exact⟨j+1,by omega,by rw[HS.out,HN.out],by rw[HS.out,HN.out],by go_num,by first|rfl|trivial⟩
   case measure=>simp[intOf];omega
  ·obtain rfl:j=k:=by omega
   have hd':decide ((j:Int)<j)=false:=decide_eq_false (by omega);rw[HNF.out]at hb⊢;rw[HLF.out];have CS:=hid (CS0.out nf hb.1 (by omega) _ (H0.out.drewN n1));have CR:=hid (fun(c':Mac) wk (hk:MSt base T M mv x z fl c' wk)=>M1 nf of wk hk hb.1 (by omega) HOF.out);exact A8v
theorem A3z(d:Nat)(hd:d<32)(w:World)(h:MSt base T M mv x z fl c w)(hxd:x.d=(d:Int))(hxo:x.o=23):Calls prog 78 #[.pointer (some ⟨T,0,none⟩)] w fun e w'=>e= .returned (.tuple #[])∧MSt base T M mv x z fl (shM 23 z d c) w'∧Ch T M mv w w':=by
 have hpw:=D6 h.zz;have HZ:=hid h.zz;have HPW:=hid hpw;have x1:=h.xd;rw[hxd]at x1;have x0:=h.xo;rw[hxo]at x0;have hp:=h.ptr;have hsz:=h.sz;have hT:=h.ltT;have hM:=h.ltM;have hr1:=(h.reg (d:=1) (by decide)).1;have hb1:=h.rb 1;have CG:=hid (F8 d hd w h);have H0:=hid h;have HQ:Hid (∀c',c'=shM 23 z d c→MSt base T M mv x z fl c'=MSt base T M mv x z fl (shM 23 z d c)):=fun c' e=>by rw[e]
 have hand:=O9 (c.r.getD 1 0).toNat 5 (by omega) (by decide);rw[show(((c.r.getD 1 0).toNat:Nat):Int)=c.r.getD 1 0 by omega]at hand;have hand2:bits .and .u32 (c.r.getD 1 0) 31=(((c.r.getD 1 0).toNat%32:Nat):Int):=hand;obtain⟨k,hk⟩:∃k,(c.r.getD 1 0).toNat%32=k:=⟨_,rfl⟩
 rw[hk]at hand2;have hk2:c.r.getD 1 0%32=(k:Int):=by omega
 have hklt:k<32:=by omega
 have hsh:shM 23 z d c=if k=0 then c else{c with r:=c.r.set d (wrR (c.r.getD d 0) (shN 23 z (c.r.getD d 0%pwZ z) k).1 z),f:=rsF (shN 23 z (c.r.getD d 0%pwZ z) k).1 z (if(shN 23 z (c.r.getD d 0%pwZ z) k).2=true then 1 else 0)}:=by
  exact A4U
 rw[hsh];have a0:0≤c.r.getD d 0%pwZ z:=Int.emod_nonneg _ (by omega);have a1:c.r.getD d 0%pwZ z<pwZ z:=Int.emod_lt_of_pos _ hpw.1;have HBD:=hid (fun j=>N4 (op:=23) h.zz a0 a1 j);have CS0:Hid (∀n,0≤n→n<4294967296→∀wk,MSt base T M mv x z fl c wk→Calls prog 71 #[.pointer (some ⟨T,0,none⟩),.int .i64 (d:Int),.int .u32 n] wk fun e w'=>e= .returned (.tuple #[])∧MSt base T M mv x z fl {c with r:=c.r.set d (wrR (c.r.getD d 0) n z)} w'∧Ch T M mv wk w'):=fun n n0 n1 wk hk=>G1 d hd n wk hk n0 n1
 generalize hA:c.r.getD d 0%pwZ z=a at*
 clear hxd hxo hand hk hk2 hsh hA h;generalize c.r.getD 1 0=r1 at*
 by_cases hk0:k=0
 ·exact A8l
 rw[if_neg hk0];obtain⟨nf,hnf⟩:∃q,(shN 23 z a k).1=q:=⟨_,rfl⟩
 obtain⟨lf,hlf⟩:∃q,(shN 23 z a k).2=q:=⟨_,rfl⟩
 obtain⟨of,hof⟩:∃q,(if lf=true then(1:Int)else 0)=q:=⟨_,rfl⟩
 rw[hnf,hlf,hof];have CF1:=hid (fun wk=>K5 lf 1 wk);rw[hof]at CF1;have HOF:Hid (OthF of):=hid (by rw[←hof];unfold OthF;cases lf<;>simp);have HNF:=hid hnf;have HLF:=hid hlf;clear hnf hlf hof;have hkb:((k:Int)==0)=false:=by simpa using hk0
 go_enter func78,ntmps78;go_wp2_with((with_reducible refine(CG.out).mono ?_);rintro e w1 ⟨rfl,n1,rfl⟩)
 go_loopw[2,4,25] (fun n l i wr=>∃j:Nat,j≤k∧n= .int .u32 (shN 23 z a j).1∧l= .bool (shN 23 z a j).2∧i= .int .u32 j∧wr=w.drewN n1) (fun _ _ i _=>k-(intOf i).toNat)
 case atStart=>exact⟨0,Nat.zero_le _,rfl,rfl,rfl,rfl⟩
 case round=>
  obtain⟨j,hj,rfl,rfl,rfl,rfl⟩:=hrel;have hb:=HBD.out j;have hpp:=HPW.out;by_cases hlt:j<k
  ·have HS:Hid (shN 23 z a (j+1)=P1 23 z (shN 23 z a j).1):=rfl;generalize(shN 23 z a j).2=lb at*
   generalize(shN 23 z a j).1=n at*
   have hlt':decide ((j:Int)<k)=true:=decide_eq_true (by omega);have hw:(j:Int)+1<4294967296:=by omega
   have CH:=hid (L7 n _ (H0.out.drewN n1) hb.1 (by omega));have HN:Hid (P1 23 z n=(n / 2+(if hiB n z=true then pwZ z / 2 else 0),n%2==1)):=rfl;have hne:=V9 n hb.1 (by omega);have HJ:=hid (A4I HZ.out hb.1 hb.2 (hiB n z));generalize hiB n z=hb1 at*
   have CF:=hid (K5 hb1 1 (w.drewN n1));have hzz:=HZ.out;clear HZ;rcases hzz with rfl|rfl<;>cases hb1
   ·have hj:bits .or .u32 (n / 2) 0=n / 2+0:=HJ.out;clear HJ;exact A6A
   ·have hj:bits .or .u32 (n / 2) 32768=n / 2+32768:=HJ.out;clear HJ;exact A6A
   ·have hj:bits .or .u32 (n / 2) 0=n / 2+0:=HJ.out;clear HJ;exact A6A
   ·have hj:bits .or .u32 (n / 2) 2147483648=n / 2+2147483648:=HJ.out;clear HJ;exact A6A
  ·obtain rfl:j=k:=by omega
   have hd':decide ((j:Int)<j)=false:=decide_eq_false (by omega);rw[HNF.out]at hb⊢;rw[HLF.out];have CS:=hid (CS0.out nf hb.1 (by omega) _ (H0.out.drewN n1));have CR:=hid (fun(c':Mac) wk (hk:MSt base T M mv x z fl c' wk)=>M1 nf of wk hk hb.1 (by omega) HOF.out);exact A8v
end
end Go.Proofs.YtdojafpjipcbjaaGreat
