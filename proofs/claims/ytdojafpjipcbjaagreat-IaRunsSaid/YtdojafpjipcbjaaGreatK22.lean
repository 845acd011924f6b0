/- -/
import Derived.Test.YtdojafpjipcbjaaGreatK12
import Derived.Test.YtdojafpjipcbjaaGreatK13
import Derived.Test.YtdojafpjipcbjaaGreatK21
open Go.Proofs.Tryz
open Go.Lib (hid)
set_option maxHeartbeats 1000000
set_option maxRecDepth 100000
namespace Go.Proofs.YtdojafpjipcbjaaGreat
open Go.RowKit
set_option linter.unusedVariables false
set_option linter.unusedSimpArgs false
theorem Z1{n p:Int}(hp:0<p):(if n.tmod p<0 then n.tmod p+p else n.tmod p)=n%p:=by
 by_cases h0:0≤n
 ·have e:n.tmod p=n%p:=Int.tmod_eq_emod_of_nonneg h0;have:=Int.emod_nonneg n (show p≠0 by omega);rw[e,if_neg (by omega)]
 ·have e:n.tmod p= -((-n)%p):=by
   have:n.tmod p= -((-n).tmod p):=by rw[Int.neg_tmod];omega
   rw[this,Int.tmod_eq_emod_of_nonneg (by omega)]
  have h1:=Int.emod_nonneg (-n) (show p≠0 by omega);have h2:=Int.emod_lt_of_pos (-n) hp;have h3:=Int.emod_nonneg n (show p≠0 by omega);have h4:=Int.emod_lt_of_pos n hp;have h5:=Int.mul_ediv_add_emod n p;have h6:=Int.mul_ediv_add_emod (-n) p;have h7:(p*(n / p+(-n) / p))+(n%p+(-n)%p)=0:=by rw[Int.mul_add];omega
  rw[e];by_cases hz:(-n)%p=0
  ·rw[if_neg (by omega)];have:n%p=0:=by
    have hd:p∣-n:=Int.dvd_of_emod_eq_zero hz;exact Int.emod_eq_zero_of_dvd (Int.dvd_neg.1 hd)
   omega
  ·rw[if_pos (by omega)];have hs:n%p+(-n)%p=p:=by
    generalize n / p+(-n) / p=q at h7;have hq:q= -1:=by
     have: -p*q=n%p+(-n)%p:=by rw[Int.neg_mul];omega
     have hpos:0<n%p+(-n)%p:=by omega
     have hlt:n%p+(-n)%p<2*p:=by omega
     rcases Int.lt_trichotomy q (-1)with h|h|h
     ·have:p*2≤p*(-q):=Int.mul_le_mul_of_nonneg_left (by omega) (by omega);rw[Int.mul_neg]at this;rw[Int.neg_mul]at*
      omega
     ·exact h
     ·have:0≤p*q:=Int.mul_nonneg (by omega) (by omega);rw[Int.neg_mul]at*
      omega
    rw[hq]at h7;omega
   omega
theorem J9(n:Int)(w:World)(hn:I64 n):Calls prog 50 #[.int .i64 n] w fun e w'=>e= .returned (.int .u32 (n%4294967296))∧w=w':=by
 have hl:=Z1 (n:=n) (p:=4294967296) (by decide);have h1:=Int.emod_nonneg n (show(4294967296:Int)≠0 by decide);have h2:=Int.emod_lt_of_pos n (show(0:Int)<4294967296 by decide);unfold I64 at hn;have HL:=hid hl;by_cases h:n.tmod 4294967296<0
 ·rw[if_pos h]at hl;have d1:decide (n.tmod 4294967296<0)=true:=decide_eq_true h;go_enter func50,ntmps50;go_wp2_with fail
  go_ret;exact⟨rfl,rfl⟩
 ·rw[if_neg h]at hl;have d1:decide (n.tmod 4294967296<0)=false:=decide_eq_false h;go_enter func50,ntmps50;go_wp2_with fail
  go_ret;exact⟨rfl,rfl⟩
theorem F9(x z:Int)(w:World)(hz:z=5∨z=8∨z=16∨z=32)(h0:0≤x)(h1:x<4294967296):Calls prog 87 #[.int .u32 x,.int .i64 z] w fun e w'=>e= .returned (.int .i64 (x%pwZ z))∧w=w':=by
 have q1:x.tmod 32=x%32:=Int.tmod_eq_emod_of_nonneg h0;have q2:x.tmod 256=x%256:=Int.tmod_eq_emod_of_nonneg h0;have q3:x.tmod 65536=x%65536:=Int.tmod_eq_emod_of_nonneg h0;have q4:x.tmod 4294967296=x%4294967296:=Int.tmod_eq_emod_of_nonneg h0;rcases hz with rfl|rfl|rfl|rfl
 all_goals
  go_enter func87,ntmps87;go_wp2_with fail
 all_goals go_ret
 all_goals exact⟨rfl,rfl⟩
theorem R1(n z:Int)(w:World)(hz:z=16∨z=32)(hn: -9223372036854770000≤n∧n≤9223372036854770000):Calls prog 113 #[.int .i64 n,.int .i64 z] w fun e w'=>e= .returned (.int .i64 (n%pwZ z))∧w=w':=by
 obtain⟨hn0,hn1⟩:=hn;rcases hz with rfl|rfl
 ·show Calls _ _ _ _ (fun e w'=>e= .returned (.int .i64 (n%65536))∧w=w')
  have hl:=Z1 (n:=n) (p:=65536) (by decide);have h1:=Int.emod_nonneg n (show(65536:Int)≠0 by decide);have h2:=Int.emod_lt_of_pos n (show(0:Int)<65536 by decide);by_cases h:n.tmod 65536<0
  ·rw[if_pos h]at hl;have d1:decide (n.tmod 65536<0)=true:=decide_eq_true h;go_enter func113,ntmps113;go_wp2_with fail
   go_ret;exact⟨rfl,rfl⟩
  ·rw[if_neg h]at hl;have d1:decide (n.tmod 65536<0)=false:=decide_eq_false h;go_enter func113,ntmps113;go_wp2_with fail
   go_ret;exact⟨rfl,rfl⟩
 ·show Calls _ _ _ _ (fun e w'=>e= .returned (.int .i64 (n%4294967296))∧w=w')
  have hl:=Z1 (n:=n) (p:=4294967296) (by decide);have h1:=Int.emod_nonneg n (show(4294967296:Int)≠0 by decide);have h2:=Int.emod_lt_of_pos n (show(0:Int)<4294967296 by decide);by_cases h:n.tmod 4294967296<0
  ·rw[if_pos h]at hl;have d1:decide (n.tmod 4294967296<0)=true:=decide_eq_true h;go_enter func113,ntmps113;go_wp2_with fail
   go_ret;exact⟨rfl,rfl⟩
  ·rw[if_neg h]at hl;have d1:decide (n.tmod 4294967296<0)=false:=decide_eq_false h;go_enter func113,ntmps113;go_wp2_with fail
   go_ret;exact⟨rfl,rfl⟩
def flR(n z:Int)(ca ov:Bool):Int:=(if ca=true then 1 else 0)+(if n=0 then 2 else 0)+(if sgB n z<0 then 4 else 0)+(if ov=true then 8 else 0)
theorem L0(n z:Int)(ca ov:Bool)(w:World)(hz:z=16∨z=32)(h0:0≤n)(h1:n<4294967296):Calls prog 114 #[.int .i64 n,.int .i64 z,.bool ca,.bool ov] w fun e w'=>e= .returned (.int .i64 (flR n z ca ov))∧w=w':=by
 have CS:=hid (fun wk=>E3 n z wk (by unfold I64;omega) (by omega) (by omega));unfold flR;generalize sgB n z=s at*
 obtain⟨nb,hnb⟩:∃nb,(n==0)=nb:=⟨_,rfl⟩
 obtain⟨sb,hsb⟩:∃sb,decide (s<0)=sb:=⟨_,rfl⟩
 have e1:(if n=0 then(2:Int)else 0)=(if nb=true then 2 else 0):=by rw[←hnb];simp
 have e2:(if s<0 then(4:Int)else 0)=(if sb=true then 4 else 0):=by rw[←hsb];simp
 rw[e1,e2];clear e1 e2 h0 h1 hz;cases nb<;>cases sb<;>cases ca<;>cases ov
 all_goals
  go_enter func114,ntmps114;go_wp2_with((with_reducible refine(CS.out _).mono ?_);rintro e wk ⟨rfl,rfl⟩)
 all_goals go_ret
 all_goals exact⟨rfl,rfl⟩
section
variable {base M : Nat} {mv : Value} {c : Mac} {w : World}
theorem MM.setR(h:MM base M mv c w){d:Nat}(hd:d<32){n:Int}(h0:0≤n)(h1:n<4294967296):MM base M mv {c with r:=c.r.set d n} (w.setCell ⟨M,d,none⟩ (.int .u32 n)):=by
 have hd':d<c.r.length:=by rw[h.rl];exact hd
 have hm:=h.m.set (k:=d) (by rw[B1 h.rl];omega) (.int .u32 n);have e:(A4 c mv).set d (.int .u32 n)=A4 {c with r:=c.r.set d n} mv:=by
  unfold A4;rw[List.set_append_left _ _ (by simpa using hd'),List.map_set]
 rw[e]at hm;refine⟨hm,?_,h.bm,by simp[h.rl],fun k=>?_,h.ml,h.mb,h.fb,h.ab⟩
 ·exact h.v.imp id fun⟨D,cap,e,h1,h2,h3,h5,h6⟩=>⟨D,cap,e,h1,h2,h3,h5,h6.setO h3 _⟩
 ·show 0≤(c.r.set d n).getD k 0∧_
  by_cases e:d=k
  ·subst e;rw[List.getD_eq_getElem?_getD,List.getElem?_set_self hd'];exact⟨h0,h1⟩
  ·rw[List.getD_eq_getElem?_getD,List.getElem?_set_ne e,←List.getD_eq_getElem?_getD];exact h.rb k
theorem MM.setF(h:MM base M mv c w){n:Int}(h0:0≤n)(h1:n≤15):MM base M mv {c with f:=n} (w.setCell ⟨M,32,none⟩ (.int .i64 n)):=h.setTail 0 _ {c with f:=n} (by decide) rfl rfl rfl ⟨h0,h1⟩ h.ab
theorem MM.reg(h:MM base M mv c w){d:Nat}(hd:d<32):w.cell? ⟨M,d,none⟩=some (.int .u32 (c.r.getD d 0))∧w.frozen? ⟨M,d,none⟩=false:=by
 exact A7M
theorem MM.drew(h:MM base M mv c w):MM base M mv c w.drew:=h.same (Below.refl _ _).drew
end
def wrQ(r n z:Int):Int:=r-r%pwZ z+n
theorem A7g{r n z:Int}(hz:z=8∨z=16∨z=32)(h0:0≤r)(h1:r<4294967296)(n0:0≤n)(n1:n<pwZ z):0≤wrQ r n z∧wrQ r n z<4294967296:=by
 unfold wrQ;rcases hz with rfl|rfl|rfl
 ·have e:pwZ 8=256:=rfl;rw[e]at n1⊢;omega
 ·have e:pwZ 16=65536:=rfl;rw[e]at n1⊢;omega
 ·have e:pwZ 32=4294967296:=rfl;rw[e]at n1⊢;omega
section
variable {base M : Nat} {mv : Value} {c : Mac}
theorem G2(d:Nat)(hd:d<32)(n z:Int)(w:World)(h:MM base M mv c w)(hz:z=8∨z=16∨z=32)(n0:0≤n)(n1:n<pwZ z):Calls prog 86 #[.pointer (some ⟨M,0,none⟩),.int .i64 d,.int .i64 n,.int .i64 z] w fun e w'=>e= .returned (.tuple #[])∧MM base M mv {c with r:=c.r.set d (wrQ (c.r.getD d 0) n z)} w'∧Ch M M mv w w':=by
 obtain⟨hr,hf⟩:=h.reg hd;have hM:=h.ltM;have hbd:=A7g hz (h.rb d).1 (h.rb d).2 n0 n1;have HS2:=hid (fun k=>(h.drewN k).setR hd hbd.1 hbd.2);have CP:=hid (fun wk=>F9 (c.r.getD d 0) z wk (by omega) (h.rb d).1 (h.rb d).2);have hd1:(d:Int)<32:=by omega
 have hd0:(0:Int)≤d:=by omega
 obtain⟨r0,r1⟩:=h.rb d;have p0:0≤c.r.getD d 0%pwZ z:=Int.emod_nonneg _ (by rcases hz with rfl|rfl|rfl<;>decide);have p1:c.r.getD d 0%pwZ z≤c.r.getD d 0:=by
  have e1:pwZ 8=256:=rfl;have e2:pwZ 16=65536:=rfl;have e3:pwZ 32=4294967296:=rfl;rcases hz with rfl|rfl|rfl
  ·rw[e1];omega
  ·rw[e2];omega
  ·rw[e3];omega
 unfold wrQ at*
 generalize c.r.getD d 0=r at*
 generalize r%pwZ z=p at*
 have n2:n<4294967296:=by have:pwZ z≤4294967296:=(by rcases hz with rfl|rfl|rfl<;>decide);omega
 clear h n1 hz;obtain⟨u0,u1⟩:=hbd;go_enter func86,ntmps86;go_wp2_with fail
 go_quiet((go_at_call 87;with_reducible exact B8 (CP.out _)))
 go_wp2_with fail
 exact bodyPost_end (v:=.tuple #[]) (by simp[results,results86,go_sem]) rfl ⟨rfl,HS2.out nq,((Ch.refl _ _ _ _).drewN _).setM _ _⟩
end
end Go.Proofs.YtdojafpjipcbjaaGreat
namespace Go.Proofs.YtdojafpjipcbjaaGreat
open Go.RowKit
set_option linter.unusedVariables false
set_option linter.unusedSimpArgs false
theorem q7z{p:Prop}(h:p:=by
 go_enter func117,ntmps117;go_wp2_with fail
 go_quiet(fail)
 obtain⟨⟨r0,f0⟩,⟨r2,f2⟩⟩:=HG.out _ (HR.out.drewN nq).m;obtain⟨⟨u0,-,-,-,-⟩,-⟩:=(HR.out.drewN nq).b.cells;have HR1:=hid (HR.out.drewN nq);have hM1:=HR1.out.m.ltM;have hB1:=HR1.out.b.lt;clear HR HB0 x0 x1 x2 x3 x4 xf hBl hMl rd;generalize(w.alloc (.cells #[.int .i64 27,.int .i64 d,.int .i64 s,.int .i64 z,.int .i64 i] 61)).drewN nq=Wq at*
 go_upto_region 18 with fail
 go_quiet(fail)
 rw[hA];obtain⟨⟨p0,pf0⟩,⟨p2,pf2⟩⟩:=HG.out _ (HR1.out.drewN nq).m;have HR2:=hid (HR1.out.drewN nq);have hM2:=HR2.out.m.ltM;clear HR1 r0 f0 r2 f2 u0 hM1 hB1;generalize Wq.drewN nq=Wr at*
 go_upto_region 25 with((with_reducible first|refine(CS.out _).mono ?_|refine(CB.out _).mono ?_);rintro e wk ⟨rfl,rfl⟩)
 have hs0:=HR2.out.drew;have Q0:0≤Q%4294967296:=Int.emod_nonneg _ (by decide);have Q1:Q%4294967296<4294967296:=Int.emod_lt_of_pos _ (by decide);have T0:0≤T%4294967296:=Int.emod_nonneg _ (by decide);have T1:T%4294967296<4294967296:=Int.emod_lt_of_pos _ (by decide);refine wp_region_held_drew (S:=(RX base M mv w.heap.size 27 (d:Int) s z i w)) (by kernel_rfl) ?_ (fun hHeld=>?_)
 ·(first|exact RC.toX hs2|exact RC.toX hs1|exact RC.toX hs0)
 refine tk 0 ?_;refine tk 1 ?_;refine tk 2 ?_;refine tk 4 ?_;refine tk 5 ?_;refine tk 6 ?_;refine tk 7 ?_;refine tk 8 ?_;refine tk 10 ?_;refine tk 11 ?_;refine tk 14 ?_;refine tk 15 ?_;refine rd1 3 (fun K hK=>?_)
 (go_simp;(go_at_call 50;refine(CW1.out _).mono ?_;rintro e wk ⟨rfl,rfl⟩))
 refine hK.out _ _ ?_ (fun hHeld=>?_)
 ·(first|exact RC.toX hs2|exact RC.toX hs1|exact RC.toX hs0)
 clear hK K
 try go_frame
 refine rd1 9 (fun K hK=>?_)
 (go_simp;(go_at_call 50;refine(CW2.out _).mono ?_;rintro e wk ⟨rfl,rfl⟩))
 refine hK.out _ _ ?_ (fun hHeld=>?_)
 ·(first|exact RC.toX hs2|exact RC.toX hs1|exact RC.toX hs0)
 clear hK K
 try go_frame
 refine tk 12 ?_;refine rd1 13 (fun K hK=>?_)
 (go_simp;have hs1:=hs0.next (hs0.m.setR (d:=0) (by decide) Q0 Q1) ((Ch.refl _ _ _ _).setM _ _))
 refine hK.out _ _ ?_ (fun hHeld=>?_)
 ·(first|exact RC.toX hs2|exact RC.toX hs1|exact RC.toX hs0)
 clear hK K
 try go_frame
 refine tk 16 ?_;refine rd1 17 (fun K hK=>?_)
 (go_simp;have hs2:=hs1.next (hs1.m.setR (d:=2) (by decide) T0 T1) ((Ch.refl _ _ _ _).setM _ _))
 refine hK.out _ _ ?_ (fun hHeld=>?_)
 ·(first|exact RC.toX hs2|exact RC.toX hs1|exact RC.toX hs0)
 clear hK K
 try go_frame
 refine wpAnyH_done (by kernel_rfl) ?_ _;clear hs0 hs1;go_wp2_with fail
 go_ret;exact RdP.ok rfl hs2.m hs2.ch
 ):p:=h
theorem B1Z{p:Prop}(h:p:=by
 go_enter func117,ntmps117;go_wp2_with fail
 go_quiet(fail)
 obtain⟨⟨r0,f0⟩,⟨r2,f2⟩⟩:=HG.out _ (HR.out.drewN nq).m;obtain⟨⟨u0,-,-,-,-⟩,-⟩:=(HR.out.drewN nq).b.cells;have HR1:=hid (HR.out.drewN nq);have hM1:=HR1.out.m.ltM;have hB1:=HR1.out.b.lt;clear HR HB0 x0 x1 x2 x3 x4 xf hBl hMl rd;generalize(w.alloc (.cells #[.int .i64 27,.int .i64 d,.int .i64 s,.int .i64 z,.int .i64 i] 61)).drewN nq=Wq at*
 go_upto_region 18 with fail
 go_quiet(fail)
 rw[hA];obtain⟨⟨p0,pf0⟩,⟨p2,pf2⟩⟩:=HG.out _ (HR1.out.drewN nq).m;have HR2:=hid (HR1.out.drewN nq);have hM2:=HR2.out.m.ltM;clear HR1 r0 f0 r2 f2 u0 hM1 hB1;generalize Wq.drewN nq=Wr at*
 go_wp2_with((with_reducible first|refine(CS.out _).mono ?_|refine(CB.out _).mono ?_);rintro e wk ⟨rfl,rfl⟩)
 go_ret;exact HBX.out _ HR2.out
 ):p:=h
def RdP(base M:Nat)(mv:Value)(c:Mac)(o:Option Mac)(w:World)(e:Ending)(w':World):Prop:=
 (match o with|some c'=>e= .returned (.bool true)∧MM base M mv c' w'|none=>e= .returned (.bool false)∧∃c',MM base M mv c' w'∧c'.m=c.m)∧Ch M M mv w w'
theorem RdP.ok{base M:Nat}{mv:Value}{c c':Mac}{w:World}{e:Ending}{w':World}(h1:e= .returned (.bool true))(h2:MM base M mv c' w')(h3:Ch M M mv w w'):RdP base M mv c (some c') w e w':=⟨⟨h1,h2⟩,h3⟩
theorem RdP.bad{base M:Nat}{mv:Value}{c c':Mac}{w:World}{e:Ending}{w':World}(h1:e= .returned (.bool false))(h2:MM base M mv c' w')(hm:c'.m=c.m)(h3:Ch M M mv w w'):RdP base M mv c none w e w':=⟨⟨h1,c',h2,hm⟩,h3⟩
structure RC(base M:Nat)(mv:Value)(B:Nat)(o d s z i:Int)(w:World)(c:Mac)(wk:World):Prop where
 m:MM base M mv c wk
 b:Box5 wk B o d s z i
 nm:B≠M
 no:mv.ownBlock≠some B
 ch:Ch M M mv w wk
section
variable {base M : Nat} {mv : Value} {c c' : Mac} {B : Nat} {o d s z i : Int} {w wk wk' : World}
theorem RC.next(h:RC base M mv B o d s z i w c wk)(hm:MM base M mv c' wk')(hc:Ch M M mv wk wk'):RC base M mv B o d s z i w c' wk':=
 ⟨hm,(hc.block B h.b.lt h.nm h.nm h.no).trans h.b,h.nm,h.no,h.ch.trans hc⟩
theorem RC.drewN(h:RC base M mv B o d s z i w c wk)(n:Nat):RC base M mv B o d s z i w c (wk.drewN n):=h.next (h.m.drewN n) ((Ch.refl _ _ _ _).drewN n)
theorem RC.drew(h:RC base M mv B o d s z i w c wk):RC base M mv B o d s z i w c wk.drew:=h.next h.m.drew (Ch.refl _ _ _ _).drew
theorem RC.below(h:RC base M mv B o d s z i w c wk)(hb:Below wk.heap.size wk wk'):RC base M mv B o d s z i w c wk':=h.next (h.m.same hb) (Ch.of_below hb)
theorem RC.new(h:MM base M mv c w)(o d s z i:Int):RC base M mv w.heap.size o d s z i w c (w.alloc (.cells #[.int .i64 o,.int .i64 d,.int .i64 s,.int .i64 z,.int .i64 i] 61)):=
 ⟨h.same ((Below.refl _ _).alloc (Nat.le_refl _) _),Box5.new w o d s z i,by have:=h.ltM;omega,fun e=>by have:=(h.own _ e).2;omega,Ch.of_below ((Below.refl _ _).alloc (Nat.le_refl _) _)⟩
end
def RX(base M:Nat)(mv:Value)(B:Nat)(o d s z i:Int)(w wk:World):Prop:=∃c,RC base M mv B o d s z i w c wk
theorem RC.toX{base M:Nat}{mv:Value}{B:Nat}{o d s z i:Int}{w:World}{c:Mac}{wk:World}(h:RC base M mv B o d s z i w c wk):RX base M mv B o d s z i w wk:=⟨c,h⟩
theorem A2o(a b:Int):(0≤a→0≤a.tmod b∧a.tmod b≤a)∧(a≤0→a≤a.tmod b∧a.tmod b≤0):=by
 have h1:=Int.natAbs_tmod a b;have h2:=Nat.mod_le a.natAbs b.natAbs;constructor
 ·intro h;have:=Int.tmod_nonneg b h;omega
 ·intro h;have h3:=Int.tmod_nonneg b (show 0≤-a by omega);rw[Int.neg_tmod]at h3;omega
theorem A5E{n d b:Int}(hd:0<d)(h0:0≤n)(hb:0≤b∧b≤1):(2*n+b) / d=2*(n / d)+(if d≤2*(n%d)+b then 1 else 0)∧(2*n+b)%d=(2*(n%d)+b)-(if d≤2*(n%d)+b then d else 0):=by
 have h1:=Int.emod_nonneg n (show d≠0 by omega);have h2:=Int.emod_lt_of_pos n hd;have h3:=Int.mul_ediv_add_emod n d;have hq:2*n+b=d*(2*(n / d))+(2*(n%d)+b):=by rw[←Int.mul_assoc,Int.mul_comm d 2,Int.mul_assoc];omega
 by_cases h:d≤2*(n%d)+b
 ·rw[if_pos h,if_pos h];have e:2*n+b=(2*(n%d)+b-d)+d*(2*(n / d)+1):=by rw[Int.mul_add,Int.mul_one];omega
  rw[e];constructor
  ·rw[Int.add_mul_ediv_left _ _ (by omega),Int.ediv_eq_zero_of_lt (by omega) (by omega)];omega
  ·rw[Int.add_mul_emod_self_left,Int.emod_eq_of_lt (by omega) (by omega)]
 ·rw[if_neg h,if_neg h];have e:2*n+b=(2*(n%d)+b)+d*(2*(n / d)):=by omega
  rw[e];constructor
  ·rw[Int.add_mul_ediv_left _ _ (by omega),Int.ediv_eq_zero_of_lt (by omega) (by omega)];omega
  ·rw[Int.add_mul_emod_self_left,Int.emod_eq_of_lt (by omega) (by omega)];omega
theorem A5L{h l:Int}(j:Nat)(hj:j≤31)(l0:0≤l)(h0:0≤h):(h*4294967296+l) / 2^j=2*((h*4294967296+l) / 2^(j+1))+l / 2^j%2∧0≤(h*4294967296+l) / 2^(j+1):=by
 have hp:(0:Int)<2^j:=Int.pow_pos (by decide);have e1:(2:Int)^(j+1)=2^j*2:=Int.pow_succ ..;have e2:(h*4294967296+l) / 2^(j+1)=(h*4294967296+l) / 2^j / 2:=by rw[e1,Int.ediv_ediv_of_nonneg (by omega)]
 have e3:(4294967296:Int)=2^j*2^(32-j):=by rw[←Int.pow_add,show j+(32-j)=32 by omega];rfl
 have e4:(h*4294967296+l) / 2^j=l / 2^j+h*2^(32-j):=by
  rw[e3,←Int.mul_assoc,Int.mul_comm h,Int.mul_assoc,Int.add_comm,Int.add_mul_ediv_left _ _ (by omega)]
 have e5:(2:Int)^(32-j)=2*2^(31-j):=by rw[show 32-j=(31-j)+1 by omega,Int.pow_succ,Int.mul_comm]
 have e6:h*2^(32-j)=2*(h*2^(31-j)):=by rw[e5,←Int.mul_assoc,Int.mul_comm h 2,Int.mul_assoc]
 have e7:(0:Int)≤(h*4294967296+l) / 2^(j+1):=Int.ediv_nonneg (by omega) (by omega);refine⟨?_,e7⟩;rw[e2];omega
section
variable {base M : Nat} {mv : Value} {c : Mac}
theorem A1Z(d:Nat)(hd:d<32)(s z i:Int)(w:World)(h:MM base M mv c w):Calls prog 117 #[.pointer (some ⟨M,0,none⟩),.agg #[.int .i64 26,.int .i64 d,.int .i64 s,.int .i64 z,.int .i64 i]] w fun e w'=>RdP base M mv c (N6 d c) w e w':=by
 have hM:=h.ltM;have hne:M≠w.heap.size:=by omega
 have HR:=hid (RC.new h 26 (d:Int) s z i);have rd:=((RC.new h 26 (d:Int) s z i).m.reg hd).1;obtain⟨r0,f0⟩:=(RC.new h 26 (d:Int) s z i).m.reg (d:=0) (by decide);obtain⟨r2,f2⟩:=(RC.new h 26 (d:Int) s z i).m.reg (d:=2) (by decide);obtain⟨l0,l1⟩:=h.rb 0;obtain⟨h0,h1⟩:=h.rb 2;obtain⟨y0,y1⟩:=h.rb d;have hd1:(d:Int)<32:=by omega
 have hd0:(0:Int)≤d:=by omega
 obtain⟨⟨x0,x1,x2,x3,x4⟩,xf⟩:=(RC.new h 26 (d:Int) s z i).b.cells;have hBl:=(RC.new h 26 (d:Int) s z i).b.lt;have hMl:=(RC.new h 26 (d:Int) s z i).m.ltM;have HG:Hid (∀wk,MM base M mv c wk→(wk.cell? ⟨M,0,none⟩=some (.int .u32 (c.r.getD 0 0))∧wk.frozen? ⟨M,0,none⟩=false)∧(wk.cell? ⟨M,2,none⟩=some (.int .u32 (c.r.getD 2 0))∧wk.frozen? ⟨M,2,none⟩=false)):=hid (fun wk hk=>⟨hk.reg (by decide),hk.reg (by decide)⟩);have HB0:=hid (fun(k:Nat)=>RdP.bad (e:=.returned (.bool false)) rfl ((HR.out.drewN k).m) rfl (HR.out.drewN k).ch);by_cases hz:c.r.getD d 0=0
 ·have hD:N6 d c=none:=by unfold N6;rw[if_pos (by omega)]
  rw[hD];rw[hz]at rd;clear h hD hz;go_enter func117,ntmps117;go_wp2_with fail
  go_quiet(fail)
  go_wp2_with fail
  go_ret;exact HB0.out nq
 ·have dz:(c.r.getD d 0==0)=false:=by simpa using hz
  by_cases hle:c.r.getD d 0≤c.r.getD 2 0
  ·have hD:N6 d c=none:=by unfold N6;rw[if_pos hle]
   rw[hD];have dl:decide (c.r.getD d 0≤c.r.getD 2 0)=true:=decide_eq_true hle;generalize c.r.getD d 0=y at*
   generalize c.r.getD 2 0=hi at*
   generalize c.r.getD 0 0=lo at*
   clear h hD hz;go_enter func117,ntmps117;go_wp2_with fail
   go_quiet(fail)
   go_wp2_with fail
   go_ret;exact HB0.out nq
  ·have hD:N6 d c=some {c with r:=(c.r.set 0 ((c.r.getD 2 0*4294967296+c.r.getD 0 0) / c.r.getD d 0)).set 2 ((c.r.getD 2 0*4294967296+c.r.getD 0 0)%c.r.getD d 0)}:=by unfold N6;rw[if_neg hle]
   rw[hD];have dl:decide (c.r.getD d 0≤c.r.getD 2 0)=false:=decide_eq_false hle;generalize c.r.getD d 0=y at*
   generalize c.r.getD 2 0=hi at*
   generalize c.r.getD 0 0=lo at*
   clear h hD hz;go_enter func117,ntmps117;go_wp2_with fail
   go_quiet(fail)
   go_wp2_with fail
   obtain⟨⟨r0,f0⟩,⟨r2,f2⟩⟩:=HG.out _ (HR.out.drewN nq).m;have HRn:=hid (HR.out.drewN nq);have hMl:=(HR.out.drewN nq).m.ltM;clear HB0 rd x0 x1 x2 x3 x4 xf hBl hM HR;generalize(w.alloc (.cells #[.int .i64 26,.int .i64 d,.int .i64 s,.int .i64 z,.int .i64 i] 61)).drewN nq=W at*
   have hy:0<y:=by omega
   have HBIT:=hid (fun(j:Nat) (hj:j≤31)=>A5L (h:=hi) (l:=lo) j hj l0 h0);have hN:0≤hi*4294967296+lo∧(hi*4294967296+lo) / y<4294967296:=⟨by omega,by rw[Int.ediv_lt_iff_lt_mul hy];have:(hi+1)*4294967296≤y*4294967296:=Int.mul_le_mul_of_nonneg_right (by omega) (by decide);rw[Int.mul_comm 4294967296];omega⟩
   have HN32:Hid ((hi*4294967296+lo) / 2^32=hi):=hid (by show(hi*4294967296+lo) / 4294967296=hi;omega);have HN0:Hid ((hi*4294967296+lo) / 2^0=hi*4294967296+lo):=hid (by rw[Int.pow_zero,Int.ediv_one]);have HSET:=hid (fun n m (n0:0≤n) (n1:n<4294967296) (m0:0≤m) (m1:m<4294967296)=>((HRn.out.m.setR (d:=0) (by decide) n0 n1).setR (d:=2) (by decide) m0 m1));generalize hNN:hi*4294967296+lo=N at*
   have HNN:=hid hNN;clear hNN
   go_loopw[6,7,8] (fun a b i wr=>∃(j:Nat) (q:Int),j≤32∧i= .int .i64 q∧q=(j:Int)-1∧a= .int .i64 (N / 2^j%y)∧b= .int .i64 (N / 2^j / y)∧W=wr) (fun _ _ i _=>(intOf i+1).toNat)
   case atStart=>exact⟨32,31,by decide,rfl,by decide,by rw[HN32.out,Int.emod_eq_of_lt h0 (by omega)],by rw[HN32.out,Int.ediv_eq_zero_of_lt h0 (by omega)],rfl⟩
   case round=>
    obtain⟨j,q,hj,rfl,hq,rfl,rfl,rfl⟩:=hrel;rcases j with _|j
    ·have:q= -1:=by omega
     subst this;rw[HN0.out];have q0:=Int.ediv_nonneg hN.1 y0;have m0:=Int.emod_nonneg N (show y≠0 by omega);have m1:=Int.emod_lt_of_pos N hy;have q1:=hN.2;have HF:=hid (HSET.out (N / y) (N%y) q0 q1 m0 (by omega));obtain⟨a,ha⟩:∃a,N / y=a:=⟨_,rfl⟩
     obtain⟨b,hb⟩:∃b,N%y=b:=⟨_,rfl⟩
     rw[ha]at q0 q1 HF⊢;rw[hb]at m0 m1 HF⊢;have HA:=hid ha;have HBB:=hid hb;clear hq HBIT HN32 HN0 hN HSET ha hb;go_wp2_with fail
     go_region
     go_wp2_with fail
     go_ret;rw[HNN.out,HA.out,HBB.out];exact RdP.ok rfl (by first|exact HF.out|exact HF.out.drew) (by first|exact(HRn.out.ch.setM _ _).setM _ _|exact((HRn.out.ch.setM _ _).setM _ _).drew)
    ·have:q=(j:Int):=by omega
     subst this;clear hq;obtain⟨hb1,hb2⟩:=HBIT.out j (by omega);have hbb:0≤lo / 2^j%2∧lo / 2^j%2≤1:=by omega
     obtain⟨hs1,hs2⟩:=A5E hy hb2 hbb;have m0:=Int.emod_nonneg (N / 2^(j+1)) (show y≠0 by omega);have m1:=Int.emod_lt_of_pos (N / 2^(j+1)) hy;have q0:=Int.ediv_nonneg hb2 y0;rw[←hb1]at hs1 hs2;have H1:=hid hs1;have H2:=hid hs2;clear hs1 hs2 hb1 hb2;have q1:N / 2^(j+1) / y<4294967296:=by
      have e1:N / 2^(j+1)≤N:=Int.ediv_le_self _ hN.1;have e2:=Int.ediv_le_ediv hy e1;have:=hN.2;omega
     generalize N / 2^(j+1) / y=a at*
     generalize N / 2^(j+1)%y=b at*
     have hj2:(j:Int)≤31:=by omega
     have g0:0≤lo / 2^j:=Int.ediv_nonneg l0 (Int.le_of_lt (Int.pow_pos (by decide)));have g1:lo / 2^j≤lo:=Int.ediv_le_self _ l0;have tm:(lo / 2^j).tmod 2=lo / 2^j%2:=Int.tmod_eq_emod_of_nonneg g0;have hgw:wrap64 (lo / 2^j)=lo / 2^j:=IntWalk.wrap64_in _ (by omega);have t0:0≤lo / 2^j%2:=hbb.1;have t1:lo / 2^j%2≤1:=hbb.2;clear hbb;clear hN HBIT HN32 HN0 HSET HG;by_cases hc:y≤2*b+lo / 2^j%2
     ·rw[if_pos hc]at H1 H2;have dc:decide (y≤2*b+lo / 2^j%2)=true:=decide_eq_true hc;go_wp2_with fail
      go_roundw
      case rel=>exact⟨j,(j:Int)-1,by omega,by go_num,rfl,by rw[H2.out],by rw[H1.out],by first|rfl|trivial⟩
      case measure=>simp[intOf]
     ·rw[if_neg hc]at H1 H2;have dc:decide (y≤2*b+lo / 2^j%2)=false:=decide_eq_false hc;go_wp2_with fail
      go_roundw
      case rel=>exact⟨j,(j:Int)-1,by omega,by go_num,rfl,by rw[H2.out,Int.sub_zero],by rw[H1.out,Int.add_zero],by first|rfl|trivial⟩
      case measure=>simp[intOf]
theorem A1Y(d:Nat)(hd:d<32)(s z i:Int)(w:World)(h:MM base M mv c w):Calls prog 117 #[.pointer (some ⟨M,0,none⟩),.agg #[.int .i64 27,.int .i64 d,.int .i64 s,.int .i64 z,.int .i64 i]] w fun e w'=>RdP base M mv c (R4 d c) w e w':=by
 have hM:=h.ltM;have hne:M≠w.heap.size:=by omega
 have HR:=hid (RC.new h 27 (d:Int) s z i);have rd:=((RC.new h 27 (d:Int) s z i).m.reg hd).1;obtain⟨r0,f0⟩:=(RC.new h 27 (d:Int) s z i).m.reg (d:=0) (by decide);obtain⟨r2,f2⟩:=(RC.new h 27 (d:Int) s z i).m.reg (d:=2) (by decide);obtain⟨l0,l1⟩:=h.rb 0;obtain⟨h0,h1⟩:=h.rb 2;obtain⟨y0,y1⟩:=h.rb d;have hd1:(d:Int)<32:=by omega
 have hd0:(0:Int)≤d:=by omega
 obtain⟨⟨x0,x1,x2,x3,x4⟩,xf⟩:=(RC.new h 27 (d:Int) s z i).b.cells;have hBl:=(RC.new h 27 (d:Int) s z i).b.lt;have hMl:=(RC.new h 27 (d:Int) s z i).m.ltM;have HG:Hid (∀wk,MM base M mv c wk→(wk.cell? ⟨M,0,none⟩=some (.int .u32 (c.r.getD 0 0))∧wk.frozen? ⟨M,0,none⟩=false)∧(wk.cell? ⟨M,2,none⟩=some (.int .u32 (c.r.getD 2 0))∧wk.frozen? ⟨M,2,none⟩=false)):=hid (fun wk hk=>⟨hk.reg (by decide),hk.reg (by decide)⟩);have HB0:=hid (fun(k:Nat)=>RdP.bad (e:=.returned (.bool false)) rfl ((HR.out.drewN k).m) rfl (HR.out.drewN k).ch);have HBX:=hid (fun wk (hk:RC base M mv w.heap.size 27 (d:Int) s z i w c wk)=>RdP.bad (c:=c) (e:=.returned (.bool false)) rfl hk.m rfl hk.ch);by_cases hz:c.r.getD d 0=0
 ·have hD:R4 d c=none:=by unfold R4;rw[if_pos (by rw[hz];simp[idF,D8])]
  rw[hD];rw[hz]at rd;clear h hD hz;go_enter func117,ntmps117;go_wp2_with fail
  go_quiet(fail)
  go_wp2_with fail
  go_ret;exact HB0.out nq
 ·have dz:(c.r.getD d 0==0)=false:=by simpa using hz
  have CS:=hid (fun wk=>show Calls _ _ _ wk (fun e w'=>e= .returned (.int .i64 (D8 (c.r.getD d 0)))∧wk=w')from E3 (c.r.getD d 0) 32 wk (by unfold I64;omega) (by omega) (by decide));have hb0:D8 (c.r.getD d 0)≠0:=by unfold D8;split<;>omega
  have hbb: -2147483648≤D8 (c.r.getD d 0)∧D8 (c.r.getD d 0)≤2147483647:=by unfold D8;split<;>omega
  have hj:=j4 h0 h1 l0 l1;have hA:wrap64 (c.r.getD 2 0*4294967296+c.r.getD 0 0)=idA c:=m9 (by omega) (by omega);have hab: -9223372036854775808≤idA c∧idA c≤9223372036854775807:=by rw[←hA];exact n7 _
  unfold R4;generalize idA c=a at*
  generalize D8 (c.r.getD d 0)=b at*
  have HSET:=hid (fun wk (hk:MM base M mv c wk) n m (n0:0≤n) (n1:n<4294967296) (m0:0≤m) (m1:m<4294967296)=>((hk.setR (d:=0) (by decide) n0 n1).setR (d:=2) (by decide) m0 m1));generalize c.r.getD d 0=y at*
  generalize c.r.getD 2 0=hi at*
  generalize c.r.getD 0 0=lo at*
  have db:(b==0)=false:=by simpa using hb0
  by_cases hm:b= -1∧a= -9223372036854775808
  ·rw[if_pos (by unfold idF;rw[hm.1,hm.2];rfl)];obtain⟨rfl,rfl⟩:=hm;clear h hz hab hbb hb0;go_enter func117,ntmps117;go_wp2_with fail
   go_quiet(fail)
   go_upto_region 18 with fail
   go_quiet(fail)
   rw[hA];go_wp2_with((with_reducible refine(CS.out _).mono ?_);rintro e wk ⟨rfl,rfl⟩)
   go_ret
   first|exact HBX.out _ ((HR.out.drewN _).drewN _)|exact HBX.out _ (HR.out.drewN _)
  ·have hq:=tdiv_bd hab hb0 (fun e=>hm ⟨e.2,e.1⟩);have hm9:a.tdiv b*b=a-a.tmod b:=by have:=Int.mul_tdiv_add_tmod a b;rw[Int.mul_comm];omega
   have ht:=tmod_bd hab hbb hb0;have hmb: -9223372036854775808≤a.tdiv b*b∧a.tdiv b*b≤9223372036854775807:=by
    rw[hm9];have:=A2o a b;omega
   have hsub:a-a.tdiv b*b=a.tmod b:=by omega
   have CB:=hid (fun wk=>F7 (a.tdiv b) wk);have CW1:=hid (fun wk=>J9 (a.tdiv b) wk (by unfold I64;omega));have hF:idF a b= !C9 (a.tdiv b):=by
    unfold idF C9;rw[db];by_cases h9:a= -9223372036854775808
    ·have:(b== -1)=false:=by simpa using(fun e=>hm ⟨e,h9⟩)
     rw[this];simp
    ·have:(a== -9223372036854775808)=false:=by simpa using h9
     rw[this];simp
   rw[hF];have HMB:=hid hmb;have HSUB:=hid hsub;have hwq:wrap64 (a.tdiv b)=a.tdiv b:=IntWalk.wrap64_in _ hq;have hwm:wrap64 (a.tdiv b*b)=a.tdiv b*b:=IntWalk.wrap64_in _ hmb;have hw9:IntKind.i64.wrap (a-IntKind.i64.wrap (a.tdiv b*b))=a.tmod b:=by rw[IntKind.wrap_i64,IntKind.wrap_i64];omega
   have CW2:=hid (fun wk=>show Calls _ _ #[.int .i64 (IntKind.i64.wrap (a-IntKind.i64.wrap (a.tdiv b*b)))] wk (fun e w'=>e= .returned (.int .u32 (a.tmod b%4294967296))∧wk=w')by rw[hw9];exact J9 (a.tmod b) wk (by unfold I64;omega));clear hw9;clear hm9 hmb hsub;generalize hQ:a.tdiv b=Q at*
   generalize a.tmod b=T at*
   by_cases hfit:C9 Q=true
   ·rw[hfit]at CB⊢;rw[if_neg (by decide)];have HFIN:=hid (fun wk (hk:RC base M mv w.heap.size 27 (d:Int) s z i w c wk)=>RdP.ok (c:=c) (e:=.returned (.bool true)) rfl (HSET.out wk hk.m (Q%4294967296) (T%4294967296) (Int.emod_nonneg _ (by decide)) (Int.emod_lt_of_pos _ (by decide)) (Int.emod_nonneg _ (by decide)) (Int.emod_lt_of_pos _ (by decide))) ((hk.ch.setM _ _).setM _ _));by_cases hb1:b= -1
    ·have e1:(b== -1)=true:=by simpa using hb1
     have e2:(a== -9223372036854775808)=false:=by simpa using(fun e=>hm ⟨hb1,e⟩)
     clear hb1 hm h hz hF;clear r0 f0 r2 f2;exact q7z
    ·have e1:(b== -1)=false:=by simpa using hb1
     clear hb1 hm h hz hF;clear r0 f0 r2 f2;exact q7z
   ·have hfit':C9 Q=false:=by simpa using hfit
    rw[hfit']at CB⊢;rw[if_pos (by decide)];by_cases hb1:b= -1
    ·have e1:(b== -1)=true:=by simpa using hb1
     have e2:(a== -9223372036854775808)=false:=by simpa using(fun e=>hm ⟨hb1,e⟩)
     clear hb1 hm h hz hF hfit hfit';clear r0 f0 r2 f2;exact B1Z
    ·have e1:(b== -1)=false:=by simpa using hb1
     clear hb1 hm h hz hF hfit hfit';clear r0 f0 r2 f2;exact B1Z
end
end Go.Proofs.YtdojafpjipcbjaaGreat
namespace Go.Proofs.YtdojafpjipcbjaaGreat
open Go.RowKit
set_option linter.unusedVariables false
set_option linter.unusedSimpArgs false
theorem B1a{p:Prop}(h:p:=by
 go_enter func116,ntmps116;go_wp2_with fail
 go_loopw[1,10,11] (fun s t i wr=>∃j:Nat,j≤k∧i= .int .i64 j∧s= .int .i64 (f j).1∧t= .bool (f j).2∧w=wr) (fun _ _ i _=>k-(intOf i).toNat)
 case atStart=>exact⟨0,Nat.zero_le _,rfl,by rw[HZ.out],by rw[HZ.out],rfl⟩
 case round=>
  obtain⟨j,hj,rfl,rfl,rfl,rfl⟩:=hrel;by_cases hlt:j<k
  ·obtain⟨b0,b1⟩:=HBD.out j;have HN:=hid (HST.out j);have hlt':(j:Int)<k:=by omega
   generalize(f j).1=n at*
   generalize(f j).2=o at*
   have q1:n.tmod 2=n%2:=Int.tmod_eq_emod_of_nonneg b0;have q2:n.tdiv 2=n / 2:=Int.tdiv_eq_ediv_of_nonneg b0;go_wp2_with fail
   go_roundw
   case rel=>exact⟨j+1,by omega,by go_num,by rw[HN.out],by rw[HN.out],by first|rfl|trivial⟩
   case measure=>simp[intOf];omega
  ·obtain rfl:j=k:=by omega
   go_wp2_with fail
   go_ret2
   exact⟨rfl,rfl⟩
 ):p:=h
theorem B1M{p:Prop}(h:p:=by
 cases bb
 all_goals go_wp2_with((with_reducible refine(CS.out _).mono ?_);rintro e wk ⟨rfl,rfl⟩)
 ·go_roundw
  case rel=>exact⟨j+1,by omega,by go_num,by rw[HN.out];simp,by rw[HN.out],by first|rfl|trivial⟩
  case measure=>simp[intOf];omega
 ·go_roundw
  case rel=>exact⟨j+1,by omega,by go_num,by rw[HN.out];simp,by rw[HN.out],by first|rfl|trivial⟩
  case measure=>simp[intOf];omega
 ):p:=h
theorem A7N{p:Prop}(h:p:=by
 go_wp2_with((with_reducible refine(CM.out _).mono ?_);rintro e wk ⟨rfl,rfl⟩)
 go_roundw
 case rel=>exact⟨j+1,by omega,by go_num,by rw[HN.out],by rw[HN.out],by first|rfl|trivial⟩
 case measure=>simp[intOf];omega
 ):p:=h
theorem x7(a:Int)(k:Nat)(w:World)(h0:0≤a)(h1:a<65536)(hk:k≤31):Calls prog 116 #[.int .i64 21,.int .i64 a,.int .i64 k,.int .i64 16] w fun e w'=>e= .returned (.tuple #[.int .i64 (shN 21 16 a k).1,.bool (shN 21 16 a k).2])∧w=w':=by
 have HBD:=hid (fun j=>show 0≤(shN 21 16 a j).1∧(shN 21 16 a j).1<65536 from N4 (op:=21) (z:=16) (by decide) h0 h1 j);have HST:Hid (∀j,shN 21 16 a (j+1)=(fun n:Int=>(((2*n)%65536,decide (32768≤n)):Int×Bool)) (shN 21 16 a j).1):=hid (fun j=>by
  obtain⟨b0,b1⟩:=HBD.out j;show P1 21 16 (shN 21 16 a j).1=_
  have hh:=M5 (z:=16) (by decide) b0 (show _<pwZ 16 from b1);unfold P1;rw[hh];rfl)
 have HZ:Hid (shN 21 16 a 0=(a,false)):=hid rfl;generalize hf:shN 21 16 a=f at*
 clear hf h0 h1;go_enter func116,ntmps116;go_wp2_with fail
 go_loopw[1,10,11] (fun s t i wr=>∃j:Nat,j≤k∧i= .int .i64 j∧s= .int .i64 (f j).1∧t= .bool (f j).2∧w=wr) (fun _ _ i _=>k-(intOf i).toNat)
 case atStart=>exact⟨0,Nat.zero_le _,rfl,by rw[HZ.out],by rw[HZ.out],rfl⟩
 case round=>
  obtain⟨j,hj,rfl,rfl,rfl,rfl⟩:=hrel;by_cases hlt:j<k
  ·obtain⟨b0,b1⟩:=HBD.out j;have HN:=hid (HST.out j);have hlt':(j:Int)<k:=by omega
   generalize(f j).1=n at*
   generalize(f j).2=o at*
   have CM:=hid (fun wk=>show Calls _ _ _ wk (fun e w'=>e= .returned (.int .i64 ((2*n)%65536))∧wk=w')from R1 (2*n) 16 wk (by decide) (by omega));exact A7N
  ·obtain rfl:j=k:=by omega
   go_wp2_with fail
   go_ret2
   exact⟨rfl,rfl⟩
theorem v8(a:Int)(k:Nat)(w:World)(h0:0≤a)(h1:a<65536)(hk:k≤31):Calls prog 116 #[.int .i64 22,.int .i64 a,.int .i64 k,.int .i64 16] w fun e w'=>e= .returned (.tuple #[.int .i64 (shN 22 16 a k).1,.bool (shN 22 16 a k).2])∧w=w':=by
 have HBD:=hid (fun j=>show 0≤(shN 22 16 a j).1∧(shN 22 16 a j).1<65536 from N4 (op:=22) (z:=16) (by decide) h0 h1 j);have HST:Hid (∀j,shN 22 16 a (j+1)=(fun n:Int=>((n / 2,n%2==1):Int×Bool)) (shN 22 16 a j).1):=hid (fun j=>by
  obtain⟨b0,b1⟩:=HBD.out j;show P1 22 16 (shN 22 16 a j).1=_
  have hh:=M5 (z:=16) (by decide) b0 (show _<pwZ 16 from b1);unfold P1;rw[hh];rfl)
 have HZ:Hid (shN 22 16 a 0=(a,false)):=hid rfl;generalize hf:shN 22 16 a=f at*
 clear hf h0 h1;exact B1a
theorem u9(a:Int)(k:Nat)(w:World)(h0:0≤a)(h1:a<65536)(hk:k≤31):Calls prog 116 #[.int .i64 23,.int .i64 a,.int .i64 k,.int .i64 16] w fun e w'=>e= .returned (.tuple #[.int .i64 (shN 23 16 a k).1,.bool (shN 23 16 a k).2])∧w=w':=by
 have HBD:=hid (fun j=>show 0≤(shN 23 16 a j).1∧(shN 23 16 a j).1<65536 from N4 (op:=23) (z:=16) (by decide) h0 h1 j);have HST:Hid (∀j,shN 23 16 a (j+1)=(fun n:Int=>((n / 2+(if decide (32768≤n)=true then 32768 else 0),n%2==1):Int×Bool)) (shN 23 16 a j).1):=hid (fun j=>by
  obtain⟨b0,b1⟩:=HBD.out j;show P1 23 16 (shN 23 16 a j).1=_
  have hh:=M5 (z:=16) (by decide) b0 (show _<pwZ 16 from b1);unfold P1;rw[hh];rfl)
 have HZ:Hid (shN 23 16 a 0=(a,false)):=hid rfl;generalize hf:shN 23 16 a=f at*
 clear hf h0 h1;go_enter func116,ntmps116;go_wp2_with fail
 go_loopw[1,10,11] (fun s t i wr=>∃j:Nat,j≤k∧i= .int .i64 j∧s= .int .i64 (f j).1∧t= .bool (f j).2∧w=wr) (fun _ _ i _=>k-(intOf i).toNat)
 case atStart=>exact⟨0,Nat.zero_le _,rfl,by rw[HZ.out],by rw[HZ.out],rfl⟩
 case round=>
  obtain⟨j,hj,rfl,rfl,rfl,rfl⟩:=hrel;by_cases hlt:j<k
  ·obtain⟨b0,b1⟩:=HBD.out j;have HN:=hid (HST.out j);have hlt':(j:Int)<k:=by omega
   generalize(f j).1=n at*
   generalize(f j).2=o at*
   have q1:n.tmod 2=n%2:=Int.tmod_eq_emod_of_nonneg b0;have q2:n.tdiv 2=n / 2:=Int.tdiv_eq_ediv_of_nonneg b0;have CS:=hid (fun wk=>E3 n 16 wk (by unfold I64;omega) (by omega) (by decide));have hs:decide (sgB n 16<0)=decide (32768≤n):=by
    have e:sgB n 16=if 32768≤n then n-65536 else n:=rfl
    rw[e];by_cases h:32768≤n
    ·rw[if_pos h,decide_eq_true h,decide_eq_true (by omega)]
    ·rw[if_neg h,decide_eq_false h,decide_eq_false (by omega)]
   obtain⟨bb,hbb⟩:∃bb,decide (32768≤n)=bb:=⟨_,rfl⟩
   rw[hbb]at hs;have HN2:Hid (f (j+1)=(n / 2+(if bb=true then 32768 else 0),n%2==1)):=hid (by rw[HN.out,←hbb]);clear HN hbb;have HN:=HN2;clear HN2;generalize sgB n 16=sn at*
   exact B1M
  ·obtain rfl:j=k:=by omega
   go_wp2_with fail
   go_ret2
   exact⟨rfl,rfl⟩
theorem x6(a:Int)(k:Nat)(w:World)(h0:0≤a)(h1:a<4294967296)(hk:k≤31):Calls prog 116 #[.int .i64 21,.int .i64 a,.int .i64 k,.int .i64 32] w fun e w'=>e= .returned (.tuple #[.int .i64 (shN 21 32 a k).1,.bool (shN 21 32 a k).2])∧w=w':=by
 have HBD:=hid (fun j=>show 0≤(shN 21 32 a j).1∧(shN 21 32 a j).1<4294967296 from N4 (op:=21) (z:=32) (by decide) h0 h1 j);have HST:Hid (∀j,shN 21 32 a (j+1)=(fun n:Int=>(((2*n)%4294967296,decide (2147483648≤n)):Int×Bool)) (shN 21 32 a j).1):=hid (fun j=>by
  obtain⟨b0,b1⟩:=HBD.out j;show P1 21 32 (shN 21 32 a j).1=_
  have hh:=M5 (z:=32) (by decide) b0 (show _<pwZ 32 from b1);unfold P1;rw[hh];rfl)
 have HZ:Hid (shN 21 32 a 0=(a,false)):=hid rfl;generalize hf:shN 21 32 a=f at*
 clear hf h0 h1;go_enter func116,ntmps116;go_wp2_with fail
 go_loopw[1,10,11] (fun s t i wr=>∃j:Nat,j≤k∧i= .int .i64 j∧s= .int .i64 (f j).1∧t= .bool (f j).2∧w=wr) (fun _ _ i _=>k-(intOf i).toNat)
 case atStart=>exact⟨0,Nat.zero_le _,rfl,by rw[HZ.out],by rw[HZ.out],rfl⟩
 case round=>
  obtain⟨j,hj,rfl,rfl,rfl,rfl⟩:=hrel;by_cases hlt:j<k
  ·obtain⟨b0,b1⟩:=HBD.out j;have HN:=hid (HST.out j);have hlt':(j:Int)<k:=by omega
   generalize(f j).1=n at*
   generalize(f j).2=o at*
   have CM:=hid (fun wk=>show Calls _ _ _ wk (fun e w'=>e= .returned (.int .i64 ((2*n)%4294967296))∧wk=w')from R1 (2*n) 32 wk (by decide) (by omega));exact A7N
  ·obtain rfl:j=k:=by omega
   go_wp2_with fail
   go_ret2
   exact⟨rfl,rfl⟩
theorem v4(a:Int)(k:Nat)(w:World)(h0:0≤a)(h1:a<4294967296)(hk:k≤31):Calls prog 116 #[.int .i64 22,.int .i64 a,.int .i64 k,.int .i64 32] w fun e w'=>e= .returned (.tuple #[.int .i64 (shN 22 32 a k).1,.bool (shN 22 32 a k).2])∧w=w':=by
 have HBD:=hid (fun j=>show 0≤(shN 22 32 a j).1∧(shN 22 32 a j).1<4294967296 from N4 (op:=22) (z:=32) (by decide) h0 h1 j);have HST:Hid (∀j,shN 22 32 a (j+1)=(fun n:Int=>((n / 2,n%2==1):Int×Bool)) (shN 22 32 a j).1):=hid (fun j=>by
  obtain⟨b0,b1⟩:=HBD.out j;show P1 22 32 (shN 22 32 a j).1=_
  have hh:=M5 (z:=32) (by decide) b0 (show _<pwZ 32 from b1);unfold P1;rw[hh];rfl)
 have HZ:Hid (shN 22 32 a 0=(a,false)):=hid rfl;generalize hf:shN 22 32 a=f at*
 clear hf h0 h1;exact B1a
theorem u7(a:Int)(k:Nat)(w:World)(h0:0≤a)(h1:a<4294967296)(hk:k≤31):Calls prog 116 #[.int .i64 23,.int .i64 a,.int .i64 k,.int .i64 32] w fun e w'=>e= .returned (.tuple #[.int .i64 (shN 23 32 a k).1,.bool (shN 23 32 a k).2])∧w=w':=by
 have HBD:=hid (fun j=>show 0≤(shN 23 32 a j).1∧(shN 23 32 a j).1<4294967296 from N4 (op:=23) (z:=32) (by decide) h0 h1 j);have HST:Hid (∀j,shN 23 32 a (j+1)=(fun n:Int=>((n / 2+(if decide (2147483648≤n)=true then 2147483648 else 0),n%2==1):Int×Bool)) (shN 23 32 a j).1):=hid (fun j=>by
  obtain⟨b0,b1⟩:=HBD.out j;show P1 23 32 (shN 23 32 a j).1=_
  have hh:=M5 (z:=32) (by decide) b0 (show _<pwZ 32 from b1);unfold P1;rw[hh];rfl)
 have HZ:Hid (shN 23 32 a 0=(a,false)):=hid rfl;generalize hf:shN 23 32 a=f at*
 clear hf h0 h1;go_enter func116,ntmps116;go_wp2_with fail
 go_loopw[1,10,11] (fun s t i wr=>∃j:Nat,j≤k∧i= .int .i64 j∧s= .int .i64 (f j).1∧t= .bool (f j).2∧w=wr) (fun _ _ i _=>k-(intOf i).toNat)
 case atStart=>exact⟨0,Nat.zero_le _,rfl,by rw[HZ.out],by rw[HZ.out],rfl⟩
 case round=>
  obtain⟨j,hj,rfl,rfl,rfl,rfl⟩:=hrel;by_cases hlt:j<k
  ·obtain⟨b0,b1⟩:=HBD.out j;have HN:=hid (HST.out j);have hlt':(j:Int)<k:=by omega
   generalize(f j).1=n at*
   generalize(f j).2=o at*
   have q1:n.tmod 2=n%2:=Int.tmod_eq_emod_of_nonneg b0;have q2:n.tdiv 2=n / 2:=Int.tdiv_eq_ediv_of_nonneg b0;have CS:=hid (fun wk=>E3 n 32 wk (by unfold I64;omega) (by omega) (by decide));have hs:decide (sgB n 32<0)=decide (2147483648≤n):=by
    have e:sgB n 32=if 2147483648≤n then n-4294967296 else n:=rfl
    rw[e];by_cases h:2147483648≤n
    ·rw[if_pos h,decide_eq_true h,decide_eq_true (by omega)]
    ·rw[if_neg h,decide_eq_false h,decide_eq_false (by omega)]
   obtain⟨bb,hbb⟩:∃bb,decide (2147483648≤n)=bb:=⟨_,rfl⟩
   rw[hbb]at hs;have HN2:Hid (f (j+1)=(n / 2+(if bb=true then 2147483648 else 0),n%2==1)):=hid (by rw[HN.out,←hbb]);clear HN hbb;have HN:=HN2;clear HN2;generalize sgB n 32=sn at*
   exact B1M
  ·obtain rfl:j=k:=by omega
   go_wp2_with fail
   go_ret2
   exact⟨rfl,rfl⟩
end Go.Proofs.YtdojafpjipcbjaaGreat
