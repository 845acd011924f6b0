/- -/
import Derived.BigQuiet
import Derived.Deep.RegionHeld3
import Derived.Test.YtajljbmeaeeknaaGreatS19
import Derived.Test.YtajljbmeaeeknaaGreatS20
import Derived.Test.YtajljbmeaeeknaaGreatS21
import Derived.Test.YtajljbmeaeeknaaGreatS25
open Go.Proofs.Tryz
open Go.Lib (hid)
set_option maxRecDepth 100000
namespace Go.Proofs.YtajljbmeaeeknaaGreat
open Go.RowKit Go.Maps
set_option linter.unusedVariables false
set_option linter.unusedSimpArgs false
set_option maxHeartbeats 4000000 in
theorem A3x(set regs:Int)(bs:List (List Cd))(v:Value)(w:World)(hv:Bls w v bs)(h0:toC bs≤500)(h1:bs.length≤500)(hi:A0M bs):Calls prog 17 #[.int .i64 set,.agg #[.int .i64 regs,v]] w fun e w'=>((F3 set regs bs≠0∧e= .returned (.tuple #[.bool false,.int .i64 (F3 set regs bs)]))∨(F3 set regs bs=0∧e= .returned (.tuple #[.bool true,.int .i64 0])))∧Below w.heap.size w w':=by
 have HV:=hid hv;obtain⟨va,vc,rfl,hl1,hl2⟩:=hv.shape;obtain⟨W1,hW1⟩:∃W,w.alloc (.cells #[.int .i64 regs,.slice va bs.length vc] 24)=W:=⟨_,rfl⟩
 have BB:Hid (Below w.heap.size w W1):=by rw[←hW1];exact(Below.refl _ _).alloc (Nat.le_refl _) _
 have hs:w.heap.size<W1.heap.size:=by rw[←hW1];simp
 have p0:W1.cell? ⟨w.heap.size,0,none⟩=some (.int .i64 regs):=by rw[←hW1];simp[go_sem]
 have p1:W1.cell? ⟨w.heap.size,1,none⟩=some (.slice va bs.length vc):=by rw[←hW1];simp[go_sem]
 have C1:=hid (M7 set regs bs _ W1 (HV.out.stays BB.out) h0 h1 hi);unfold A3w at C1;clear hv;by_cases hz:F3 set regs bs=0
 rotate_left
 ·have C2:Hid (Calls prog 35 #[.int .i64 set,.agg #[.int .i64 regs,.slice va bs.length vc]] W1 fun e w'=>e= .returned (.tuple #[.pointer none,.int .i64 (F3 set regs bs)])∧Below W1.heap.size W1 w'):=hid (C1.out.mono fun e w' h=>⟨h.1.elim (fun h=>h.2) (fun h=>absurd h.1 hz),h.2⟩);have d1:(F3 set regs bs !=0)=true:=by simpa using hz
  generalize F3 set regs bs=q at*
  clear C1;go_enter func17,ntmps17;go_wp2_with(go_at_call 35;(with_reducible refine C2.out.mono ?_);rintro e w2 ⟨rfl,hb2⟩;have HB2:=hid hb2;clear hb2)
  refine bodyPost_ret (v:=.tuple #[.bool false,.int .i64 q]) (by simp[results,results17,go_sem]) rfl ⟨.inl ⟨hz,rfl⟩,A8 BB.out HB2.out⟩
 ·have C2:Hid (Calls prog 35 #[.int .i64 set,.agg #[.int .i64 regs,.slice va bs.length vc]] W1 fun e w'=>∃L lo B b cb d db s g,e= .returned (.tuple #[.pointer (some ⟨L,0,none⟩),.int .i64 0])∧LayW (tS set) B L b cb d db s g bs.flatten (blS bs) (F4 set bs.flatten lo) lo w'∧Relx set bs.flatten (blS bs) lo∧Below W1.heap.size W1 w'):=hid (C1.out.mono fun e w' h=>by
   rcases h.1 with h2|⟨_,L,lo,e1,B,b,cb,d,db,s,g,hl,hr⟩
   ·exact absurd hz h2.1
   ·exact⟨L,lo,B,b,cb,d,db,s,g,e1,hl,hr,h.2⟩)
  have HZ:=hid hz;have HFL:=hid (E6 bs);obtain⟨HSR,hvp⟩:=A0J hz;have HPC:=hid (d9 hvp hi);have hsz0:=(M8 hvp).1;have hcs5:bs.flatten.length≤500:=by rw[E6];exact h0
  have HBT:=hid (show∀(j:Nat),j<bs.flatten.length→L9 (bs.flatten.getD j default).o=true→∃k m:Nat,(bs.flatten.getD j default).t=k∧k<(blS bs).length∧(blS bs).getD k 0=m∧m≤bs.flatten.length from fun j hj hb=>by
   obtain⟨t0,t1⟩:=A8P (HPC.out j hj).ok hb;obtain⟨k,hk⟩:=Int.eq_ofNat_of_zero_le t0;have hk':k<bs.length:=by omega
   refine⟨k,toC (bs.take k),hk,by rw[L8];exact hk',A0H bs hk',?_⟩;rw[E6];exact T9 k)
  clear C1 hz hvp hsz0;generalize hcs:bs.flatten=cs at*
  generalize hbl:blS bs=bl at*
  have HML:=hid (U9 set 390);have HCF:=hid (k7 set);have CB:=hid S5;have CR:=hid (Z6 set);unfold ncV at CR;have HLB:=hid (show∀(lo:List Bool) (j:Nat),j<cs.length→D4 set cs lo j<D4 set cs lo (j+1)∧D4 set cs lo (j+1)≤22500 from fun lo j hj=>⟨by have:=(S4 HSR (HPC.out j hj) (lo.getD j false)).1;show _<D4 set cs lo j+_;omega,S3 HSR HPC.out hcs5 lo hj⟩);have HOF:=hid (show∀(lo:List Bool) (i:Nat),i≤cs.length→D4 set cs lo i≤22500 from fun lo i hi=>S3 HSR HPC.out hcs5 lo hi);go_enter func17,ntmps17;go_wp2_with(go_at_call 35;(with_reducible refine C2.out.mono ?_);rintro e w2 ⟨L,lo,B,b,cb,d,db,s,g,rfl,hlay,hrx,hb2⟩;have HLY:=hid hlay;have HRX:=hid hrx;have HB2:=hid hb2;have l1:=hlay.hl.at 1 (.slice (some ⟨b,0,none⟩) cs.length cb) rfl;have l3:=hlay.hl.at 3 (.slice (some ⟨s,0,none⟩) (cs.length+1) (cs.length+1)) rfl;have l4:=hlay.hl.at 4 (.slice (some ⟨g,0,none⟩) cs.length cs.length) rfl;clear hlay hrx hb2 p0 p1)
  have HL2:=hid (Below.refl w2.heap.size w2);generalize hT:tS set=T at*
  generalize fRe set=FR at*
  go_wp2_with fail
  go_loopw[8,9,24] (fun _ _ i wr=>∃(j:Nat),j≤cs.length∧i= .int .i64 (j:Nat)∧Hid (Below w2.heap.size w2 wr)) (fun _ _ i _=>cs.length-(intOf i).toNat)
  case atStart=>exact⟨0,Nat.zero_le _,rfl,HL2⟩
  case round=>
   obtain⟨j,hj,rfl,HBr⟩:=hrel;have HLr:Hid (LayW T B L b cb d db s g cs bl (F4 set cs lo) lo wr):=hid (HLY.out.below HBr.out);by_cases hlt:j<cs.length
   ·have hlt':(j:Int)<(cs.length:Int):=Int.ofNat_lt.2 hlt;obtain⟨c0,c1,c2,c3,c4,c5⟩:=HLr.out.hc j hlt;have HT0:=hid (HBT.out j hlt);have HFI:Hid (l9 set cs bl lo j):=hid (HRX.out.fine hlt);unfold l9 at HFI;obtain⟨hpq,hq9⟩:=HLB.out lo j hlt;have hblt:=B6 c0;have hne1:¬b=wr.heap.size:=by omega
    have hj1:IntKind.i64.wrap ((j:Int)+1)=((j+1:Nat):Int):=by rw[IntWalk.i64_left];exact IntWalk.wrap64_in _ (by omega)
    generalize hxx:cs.getD j default=x at*
    clear l1 l3 l4;go_upto_region 7 with fail
    generalize hW6:wr.alloc (.cells #[.int .i64 x.o,.int .i64 x.d,.int .i64 x.a,.int .i64 x.b,.int .u32 x.i,.int .i64 x.t] 61)=W6;have BB6:Hid (Below wr.heap.size wr W6):=by rw[←hW6];exact(Below.refl _ _).alloc (Nat.le_refl _) _
    have HB6:Hid (Cls W6 wr.heap.size [.int .i64 x.o,.int .i64 x.d,.int .i64 x.a,.int .i64 x.b,.int .u32 x.i,.int .i64 x.t]):=by rw[←hW6];exact Cls.made
    have H6:Hid (LayW T B L b cb d db s g cs bl (F4 set cs lo) lo W6):=HLr.out.below BB6.out;have HW6:Hid (Below w2.heap.size w2 W6):=A8 HBr.out BB6.out;have g0:=H6.out.hg.at j (.bool (lo.getD j false)) (by rw[List.getElem?_map,List.getD_eq_getElem?_getD,List.getElem?_eq_getElem (by rw[H6.out.lg];exact hlt)];rfl);have l0:=H6.out.hl.at 0 (.iface T (.agg #[])) rfl;have l3:=H6.out.hl.at 3 (.slice (some ⟨s,0,none⟩) (cs.length+1) (cs.length+1)) rfl;have l4:=H6.out.hl.at 4 (.slice (some ⟨g,0,none⟩) cs.length cs.length) rfl;have s0:=H6.out.hs.at j (.int .i64 (D4 set cs lo j:Nat)) (by rw[←L7 set cs lo (Nat.le_of_lt hlt),List.getElem?_map,List.getD_eq_getElem?_getD,List.getElem?_eq_getElem (by rw[J3];omega)];rfl);have s1:=H6.out.hs.at (j+1) (.int .i64 (D4 set cs lo (j+1):Nat)) (by rw[←L7 set cs lo (show j+1≤cs.length by omega),List.getElem?_map,List.getD_eq_getElem?_getD,List.getElem?_eq_getElem (by rw[J3];omega)];rfl);have hj2:(j:Int)<(cs.length:Int)+1:=by omega
    have hj3:(j:Int)+1<(cs.length:Int)+1:=by omega
    have hj4:(0:Int)≤(j:Int)+1:=by omega
    clear hW6 c0 c1 c2 c3 c4 c5;generalize hpn:D4 set cs lo j=pn at*
    generalize hp1:D4 set cs lo (j+1)=p1 at*
    have hd1:decide ((p1:Int)≤(pn:Int))=false:=decide_eq_false (by omega);have hd2:decide (p1≤pn)=false:=decide_eq_false (by omega);cases hbr:L9 x.o
    ·have C1:Hid (∀w,Calls prog 36 #[.int .i64 x.o] w fun e w'=>e= .returned (.bool false)∧w=w'):=hid (fun w=>by have:=CB.out x.o w;rw[hbr]at this;exact this);have k0:=HB6.out.at 0 (.int .i64 x.o) rfl;clear g0 l4 l0;go_quiet((go_at_call 36;with_reducible exact D8 (C1.out _)))
     go_wp2_with fail
     go_roundw
     case rel=>exact⟨j+1,by omega,by go_num,hid (B8 HW6.out _)⟩
     case measure=>simp[intOf];omega
    have C1:Hid (∀w,Calls prog 36 #[.int .i64 x.o] w fun e w'=>e= .returned (.bool true)∧w=w'):=hid (fun w=>by have:=CB.out x.o w;rw[hbr]at this;exact this);cases hlb:lo.getD j false
    ·rw[hlb]at g0;obtain⟨k,m,ht1,ht2,ht3,ht4⟩:=HT0.out hbr;have hto:toF set cs bl lo x=D4 set cs lo m:=by unfold toF;rw[ht1,Int.toNat_natCast,ht3,Int.toNat_natCast]
     have CT:Hid (∀w',Since W6 w'→Calls prog 37 #[.pointer (some ⟨L,0,none⟩),.agg #[.int .i64 x.o,.int .i64 x.d,.int .i64 x.a,.int .i64 x.b,.int .u32 x.i,.int .i64 x.t]] w' fun e w''=>e= .returned (.int .i64 (toF set cs bl lo x:Nat))∧Below w'.heap.size w' w''):=hid (fun w' h=>by
      have:=A1f B L b cb d db s g cs bl (F4 set cs lo) lo x k m ht1 ht2 ht3 ht4 w' (H6.out.below h);rw[L7 _ _ _ ht4,←hto]at this;exact this)
     have hq2:=HOF.out lo m ht4;rw[←hto]at hq2;have hfi:=HFI.out hbr hlb;have CR2:Hid (∀w,Calls prog FR #[.agg #[],.agg #[.int .i64 x.o,.int .i64 x.d,.int .i64 x.a,.int .i64 x.b,.int .u32 x.i,.int .i64 x.t],.int .i64 (pn:Nat),.int .i64 (toF set cs bl lo x:Nat)] w fun e w'=>e= .returned (.bool true)∧Below w.heap.size w w'):=hid (fun w=>by
      have:=CR.out x (pn:Nat) (toF set cs bl lo x:Nat) (by omega) (by omega) w;rw[hfi]at this;exact this)
     have r0:∀wk,Since W6 wk→wk.cell? ⟨L,0,none⟩=some (.iface T (.agg #[])):=fun wk h=>h.cell l0
     have r3:∀wk,Since W6 wk→wk.cell? ⟨L,3,none⟩=some (.slice (some ⟨s,0,none⟩) (cs.length+1) (cs.length+1)):=fun wk h=>h.cell l3
     have r4:∀wk,Since W6 wk→wk.cell? ⟨L,4,none⟩=some (.slice (some ⟨g,0,none⟩) cs.length cs.length):=fun wk h=>h.cell l4
     have r5:∀wk,Since W6 wk→wk.cell? ⟨g,j,none⟩=some (.bool false):=fun wk h=>h.cell g0
     have r6:∀wk,Since W6 wk→wk.cell? ⟨s,j,none⟩=some (.int .i64 (pn:Nat)):=fun wk h=>h.cell s0
     have r7:∀wk,Since W6 wk→wk.cell? ⟨s,j+1,none⟩=some (.int .i64 (p1:Nat)):=fun wk h=>h.cell s1
     have y0:=HB6.out.at 0 (.int .i64 x.o) rfl;have k0:∀wk,Since W6 wk→wk.cell? ⟨wr.heap.size,0,none⟩=some (.int .i64 x.o):=fun wk h=>h.cell y0
     have y1:=HB6.out.at 1 (.int .i64 x.d) rfl;have k1:∀wk,Since W6 wk→wk.cell? ⟨wr.heap.size,1,none⟩=some (.int .i64 x.d):=fun wk h=>h.cell y1
     have y2:=HB6.out.at 2 (.int .i64 x.a) rfl;have k2:∀wk,Since W6 wk→wk.cell? ⟨wr.heap.size,2,none⟩=some (.int .i64 x.a):=fun wk h=>h.cell y2
     have y3:=HB6.out.at 3 (.int .i64 x.b) rfl;have k3:∀wk,Since W6 wk→wk.cell? ⟨wr.heap.size,3,none⟩=some (.int .i64 x.b):=fun wk h=>h.cell y3
     have y4:=HB6.out.at 4 (.int .u32 x.i) rfl;have k4:∀wk,Since W6 wk→wk.cell? ⟨wr.heap.size,4,none⟩=some (.int .u32 x.i):=fun wk h=>h.cell y4
     have y5:=HB6.out.at 5 (.int .i64 x.t) rfl;have k5:∀wk,Since W6 wk→wk.cell? ⟨wr.heap.size,5,none⟩=some (.int .i64 x.t):=fun wk h=>h.cell y5
     have h00:=Since.refl W6;have hltb:=B6 y0;clear y0 y1 y2 y3 y4 y5 l0 l3 l4 g0 s0 s1 ht1 ht2 ht3 ht4 hto hq2 hfi;generalize hqn:toF set cs bl lo x=qn at*
     have hm:=HML.out;simp only[String.reducePush,String.reduceAppend,Nat.reduceAdd]at hm;have hcf:=HCF.out
     go_region_held3(fun wk=>Since W6 wk) (first|assumption|exact Since.drew (by assumption)) (first|(go_at_call 36;with_reducible refine(C1.out _).mono ?_;rintro e w3 ⟨rfl,rfl⟩)|(go_at_call 37;with_reducible refine(CT.out _ (by assumption)).mono ?_;rintro e w3 ⟨rfl,hb3⟩;have hs1:=Since.next (by assumption) hb3)|(with_reducible refine(CR2.out _).mono ?_;rintro e w4 ⟨rfl,hb4⟩;have hs2:=Since.next (by assumption) hb4))
     all_goals
      have hS4:Since W6 w4:=by assumption
      have HS4:=hid hS4;clear hS4 h00 hs1 hs2 hb3 hb4 r0 r3 r4 r5 r6 r7 k0 k1 k2 k3 k4 k5 hm hcf;go_wp2_with fail
      go_roundw
      case rel=>exact⟨j+1,by omega,by go_num,hid (A8 HW6.out HS4.out)⟩
      case measure=>simp[intOf];omega
    ·rw[hlb]at g0;have k0:=HB6.out.at 0 (.int .i64 x.o) rfl;clear l0;go_quiet((go_at_call 36;with_reducible exact D8 (C1.out _)))
     go_wp2_with fail
     go_roundw
     case rel=>exact⟨j+1,by omega,by go_num,hid (B8 HW6.out _)⟩
     case measure=>simp[intOf];omega
   ·obtain rfl:j=cs.length:=by omega
    have hd:decide ((cs.length:Int)<(cs.length:Int))=false:=decide_eq_false (by omega);clear l1 l3 l4;go_wp2_with fail
    refine bodyPost_ret (v:=.tuple #[.bool true,.int .i64 0]) (by simp[results,results17,go_sem]) rfl ⟨.inr ⟨HZ.out,rfl⟩,A8 (A8 BB.out HB2.out) HBr.out⟩
def A1y(bs:List (List Cd)):Bool:=decide (500<toC bs)||decide (500<bs.length)
theorem A8a(regs:Int)(bs:List (List Cd))(v:Value)(w:World)(hv:Bls w v bs):Calls prog 7 #[.agg #[.int .i64 regs,v]] w fun e w'=>e= .returned (.bool (A1y bs))∧Below w.heap.size w w':=by
 have HV:=hid hv;obtain⟨va,vc,rfl,hl1,hl2⟩:=hv.shape;obtain⟨W1,hW1⟩:∃W,w.alloc (.cells #[.int .i64 regs,.slice va bs.length vc] 24)=W:=⟨_,rfl⟩
 have BB:Hid (Since w W1):=by rw[←hW1];exact(Below.refl _ _).alloc (Nat.le_refl _) _
 have p1:W1.cell? ⟨w.heap.size,1,none⟩=some (.slice va bs.length vc):=by rw[←hW1];simp[go_sem]
 have hs:w.heap.size<W1.heap.size:=by rw[←hW1];simp
 have P1:=hid p1;have HLN:Hid (500<bs.length→A1y bs=true):=hid (fun h=>by unfold A1y;simp[h]);have HLS:Hid (bs.length≤500→A1y bs=decide (500<toC bs)):=hid (fun h=>by unfold A1y;rw[decide_eq_false (by omega:¬500<bs.length),Bool.or_false]);clear hv;go_enter func7,ntmps7;go_wp2_with fail
 clear p1 hW1
 go_loopw[3,4] (fun n i wr=>∃(j:Nat) (m:Int),j≤bs.length∧i= .int .i64 j∧n= .int .i64 m∧Hid (bs.length≤500→m=(toC (bs.take j):Nat))∧wr=W1) (fun _ i _=>bs.length-(intOf i).toNat)
 case atStart=>exact⟨0,0,Nat.zero_le _,rfl,rfl,hid (fun _=>rfl),rfl⟩
 case round=>
  obtain⟨j,m,hj,rfl,rfl,HM,rfl⟩:=hrel;have p1:=P1.out;by_cases hlt:j<bs.length
  ·obtain⟨b,q,c,u,ua,uc,e',hc,hb,x0,rfl,hu⟩:=(HV.out.stays BB.out).at hlt;cases e';have hlt':(j:Int)<bs.length:=Int.ofNat_lt.2 hlt;have hj1:IntKind.i64.wrap ((j:Int)+1)=((j+1:Nat):Int):=by rw[IntWalk.i64_left];exact IntWalk.wrap64_in _ (by omega)
   obtain⟨m',HM',hm'⟩:∃m':Int,Hid (bs.length≤500→m'=(toC (bs.take (j+1)):Nat))∧IntKind.i64.wrap (m+((bs.getD j []).length:Int))=m':=⟨IntKind.i64.wrap (m+((bs.getD j []).length:Int)),hid (fun h=>by
    obtain⟨a2,c2,e2,h2,h3⟩:=hu.shape;have e3:=HM.out h;have e4:=O5 hlt;have e5:toC (bs.take j)≤j*140737488351232:=by
     have:∀j,j≤bs.length→toC (bs.take j)≤j*140737488351232:=by
      intro j
      induction j with
      |zero=>intro _;simp[toC]
      |succ k ih=>
       intro hk;have h5:=O5 (bs:=bs) (j:=k) (by omega);have h6:=ih (by omega);obtain⟨_,_,_,_,_,_,_,_,_,_,_,h7⟩:=HV.out.at (show k<bs.length by omega);obtain⟨_,_,_,_,h8⟩:=h7.shape;omega
     exact this j hj
    have e6:m+((bs.getD j []).length:Int)=(toC (bs.take (j+1)):Nat):=by rw[e3,e4];omega
    have e8:j≤500:=Nat.le_trans hj h;have e7:toC (bs.take (j+1))≤100000000000000000:=(by omega)
    rw[IntWalk.i64_left,e6];exact IntWalk.wrap64_in _ (by omega)),rfl⟩
   clear hu;generalize(bs.getD j []).length=ln at*
   go_wp2_with fail
   go_roundw
   case rel=>exact⟨j+1,m',by omega,by go_num,rfl,HM',trivial⟩
   case measure=>simp[intOf];omega
  ·obtain rfl:j=bs.length:=by omega
   have hd:decide ((bs.length:Int)<bs.length)=false:=decide_eq_false (by omega);rw[List.take_length]at HM;by_cases h5:500<bs.length
   ·have d2:decide ((500:Int)<(bs.length:Int))=true:=decide_eq_true (by omega);cases d1:decide ((500:Int)<m)
    ·go_wp2_with fail
     go_ret;exact⟨N6 (HLN.out h5).symm,BB.out⟩
    ·go_wp2_with fail
     go_ret;exact⟨N6 (HLN.out h5).symm,BB.out⟩
   ·have d2:decide ((500:Int)<(bs.length:Int))=false:=decide_eq_false (by omega);have HE:=hid (HM.out (by omega));have HLL:=hid (HLS.out (by omega));cases d1:decide ((500:Int)<m)
    ·go_wp2_with fail
     go_ret;refine⟨N6 ?_,BB.out⟩;rw[HLL.out];have:=of_decide_eq_false d1;have:=HE.out;exact(decide_eq_false (by omega)).symm
    ·go_wp2_with fail
     go_ret;refine⟨N6 ?_,BB.out⟩;rw[HLL.out];have:=of_decide_eq_true d1;have:=HE.out;exact(decide_eq_true (by omega)).symm
def A5D(xs:List Int)(n:Int):Bool:=xs.contains n
theorem A9t(xs:List Int)(v:Value)(n:Int)(w:World)(hv:Ints .i64 w v xs)(hl:xs.length≤100000):Calls prog 18 #[v,.int .i64 n] w fun e w'=>e= .returned (.bool (A5D xs n))∧w=w':=by
 have HV:=hid hv;obtain⟨va,vc,rfl,hl1,hl2⟩:=hv.shape;clear hv;go_enter func18,ntmps18;go_wp2_with fail
 go_loop [5] (fun i=>∃j:Nat,j≤xs.length∧i= .int .i64 j∧Hid ((xs.take j).contains n=false)) (fun i=>xs.length-(intOf i).toNat)
 case atStart=>exact⟨0,Nat.zero_le _,rfl,hid (by simp)⟩
 case round=>
  obtain⟨j,hj,rfl,HN⟩:=hrel;by_cases hlt:j<xs.length
  ·obtain⟨b,q,c,e',hc,hb,x0⟩:=HV.out.at hlt;cases e';have hlt':(j:Int)<xs.length:=Int.ofNat_lt.2 hlt;have hj1:IntKind.i64.wrap ((j:Int)+1)=((j+1:Nat):Int):=by rw[IntWalk.i64_left];exact IntWalk.wrap64_in _ (by omega)
   have HS:=hid (A1g xs j hlt);have HM:Hid (xs.getD j 0∈xs):=hid (by rw[List.getD_eq_getElem?_getD,List.getElem?_eq_getElem hlt];exact List.getElem_mem hlt);generalize xs.getD j 0=y at*
   cases hy:(y==n)
   ·go_wp2_with fail
    go_round
    case rel=>exact⟨j+1,by omega,by go_num,hid (by rw[HS.out,List.contains_eq_any_beq,List.any_append,←List.contains_eq_any_beq,HN.out];simp;intro h;subst h;simp at hy)⟩
    case measure=>simp[intOf];omega
   ·have hy2:y=n:=by simpa using hy
    have HT:Hid (A5D xs n=true):=hid (by unfold A5D;rw[←hy2];simpa using HM.out);go_wp2_with fail
    go_ret;exact⟨N6 HT.out.symm,rfl⟩
  ·obtain rfl:j=xs.length:=by omega
   have hd:decide ((xs.length:Int)<xs.length)=false:=decide_eq_false (by omega);rw[List.take_length]at HN;go_wp2_with fail
   go_ret;exact⟨N6 HN.out.symm,rfl⟩
theorem A5k{lo:List Bool}{n k:Nat}(hk:k<n):A5D (trL lo n) (k:Int)=lo.getD k false:=by
 unfold A5D trL;rw[Bool.eq_iff_iff];simp only[List.contains_iff_mem,List.mem_map,List.mem_filter,List.mem_range];constructor
 ·rintro⟨m,⟨_,h2⟩,h3⟩;have:m=k:=by omega
  subst this;exact h2
 ·intro h;exact⟨k,⟨hk,h⟩,rfl⟩
theorem A7E{lo:List Bool}{n i:Nat}(hi:i<(trL lo n).length):0≤(trL lo n).getD i 0∧(trL lo n).getD i 0<n:=by
 have h:(trL lo n).getD i 0∈trL lo n:=by rw[List.getD_eq_getElem?_getD,List.getElem?_eq_getElem hi];exact List.getElem_mem hi
 generalize(trL lo n).getD i 0=y at*
 unfold trL at h;simp only[List.mem_map,List.mem_filter,List.mem_range]at h;obtain⟨m,⟨h1,_⟩,rfl⟩:=h;omega
theorem A7C{lo:List Bool}{n i:Nat}(hi:i+1<(trL lo n).length):(trL lo n).getD i 0<(trL lo n).getD (i+1) 0:=by
 have h:(trL lo n).Pairwise (·<·):=by
  unfold trL;rw[List.pairwise_map];exact(List.pairwise_lt_range.filter _).imp (fun h=>by omega)
 have:=List.pairwise_iff_getElem.1 h i (i+1) (by omega) hi (by omega);rw[List.getD_eq_getElem?_getD,List.getD_eq_getElem?_getD,List.getElem?_eq_getElem hi,List.getElem?_eq_getElem (by omega:i<(trL lo n).length)];exact this
theorem A7J{p:Prop}(h:p:=by
 go_wp2_with fail
 go_quiet((go_at_call 18;with_reducible exact D8 (CH.out _)))
 go_wp2_with fail
 go_roundw
 case rel=>exact⟨m+1,by omega,by go_num,by rw[←hk2,←hkk];rfl,hid (B8 HBm.out _)⟩
 case measure=>simp[intOf];omega
 ):p:=h
theorem O6{b q b' q' n n' c c':Nat}(h:Value.slice (some ⟨b,q,none⟩) n c= .slice (some ⟨b',q',none⟩) n' c'):b'=b∧q'=q:=by
 cases h;exact⟨rfl,rfl⟩
def n9(set:Int)(bs:List (List Cd))(lo:List Bool):List Int:=(F4 set bs.flatten lo).map fun n:Nat=>(n:Int)
theorem A0i(set:Int)(bs:List (List Cd))(lo:List Bool):(n9 set bs lo).length=toC bs+1:=by
 unfold n9;rw[List.length_map,J3,E6]
theorem x9(set:Int)(bs:List (List Cd))(lo:List Bool){i:Nat}(h:i≤toC bs):(n9 set bs lo).getD i 0=(D4 set bs.flatten lo i:Nat):=by
 have:=L7 set bs.flatten lo (i:=i) (by rw[E6];exact h);unfold n9;rw[←this,List.getD_eq_getElem?_getD,List.getElem?_map,List.getD_eq_getElem?_getD,List.getElem?_eq_getElem (by rw[J3,E6];omega)];rfl
set_option maxHeartbeats 4000000 in
theorem t9(set regs:Int)(bs:List (List Cd))(v:Value)(w:World)(hv:Bls w v bs)(hi:A0M bs):Calls prog 4 #[.int .i64 set,.agg #[.int .i64 regs,v]] w fun e w'=>e= .returned (.bool true)∧Below w.heap.size w w':=by
 have HV:=hid hv;obtain⟨va,vc,rfl,hl1,hl2⟩:=hv.shape;obtain⟨W1,hW1⟩:∃W,w.alloc (.cells #[.int .i64 regs,.slice va bs.length vc] 24)=W:=⟨_,rfl⟩
 have BB:Hid (Below w.heap.size w W1):=by rw[←hW1];exact(Below.refl _ _).alloc (Nat.le_refl _) _
 have hs:w.heap.size<W1.heap.size:=by rw[←hW1];simp
 have p0:W1.cell? ⟨w.heap.size,0,none⟩=some (.int .i64 regs):=by rw[←hW1];simp[go_sem]
 have p1:W1.cell? ⟨w.heap.size,1,none⟩=some (.slice va bs.length vc):=by rw[←hW1];simp[go_sem]
 have P0:=hid p0;have P1:=hid p1;have HV1:Hid (Bls W1 (.slice va bs.length vc) bs):=hid (HV.out.stays BB.out);have CK:=hid A6L;have CLg:=hid (A8a regs bs _ W1 HV1.out);clear hv;cases hlg:A1y bs
 rotate_left
 ·rw[hlg]at CLg;go_enter func4,ntmps4;go_wp2_with(first|(go_at_call 7;(with_reducible refine CLg.out.mono ?_);rintro e w2 ⟨rfl,hb2⟩;have HB2:=hid hb2;clear hb2)|(go_at_call 8;(with_reducible refine(CK.out _).mono ?_);rintro e w3 ⟨rfl,hb3⟩;have HB3:=hid hb3;clear hb3))
  go_ret;exact⟨rfl,A8 (A8 BB.out HB2.out) HB3.out⟩
 ·rw[hlg]at CLg;have hlg2:=hlg;unfold A1y at hlg2;rw[Bool.or_eq_false_iff]at hlg2;have h0:toC bs≤500:=by have:=of_decide_eq_false hlg2.1;omega
  have h1:bs.length≤500:=by have:=of_decide_eq_false hlg2.2;omega
  clear hlg hlg2;have CS:=hid (fun w' (h:Since W1 w')=>A2a set regs bs _ w' (HV1.out.stays h) h0 h1 hi);have CL:=hid (fun w' (h:Since W1 w')=>A3v set regs bs _ w' (HV1.out.stays h) h0 h1 hi);have CC:=hid (fun w' (h:Since W1 w')=>A3x set regs bs _ w' (HV1.out.stays h) h0 h1 hi);have CA:=hid (fun w' (h:Since W1 w')=>A6j set regs bs _ w' (HV1.out.stays h) h0 h1);have CE:=hid (fun w' (h:Since W1 w')=>A1X set regs bs _ w' (HV1.out.stays h) h0 h1 hi);have CZ:=hid (fun(hz:K9 regs bs=0) w' (h:Since W1 w')=>A8Z regs bs _ w' (HV1.out.stays h) h0 h1 hz);by_cases hz:F3 set regs bs=0
  rotate_left
  ·have CS2:Hid (∀w',Since W1 w'→Calls prog 15 #[.int .i64 set,.agg #[.int .i64 regs,.slice va bs.length vc]] w' fun e w''=>e= .returned (.tuple #[.slice none 0 0,.int .i64 (F3 set regs bs)])∧Below w'.heap.size w' w''):=hid (fun w' h=>(CS.out w' h).mono fun e w'' hh=>⟨hh.1.elim (fun h=>h.2) (fun h=>absurd h.1 hz),hh.2⟩);have CL2:Hid (∀w',Since W1 w'→Calls prog 16 #[.int .i64 set,.agg #[.int .i64 regs,.slice va bs.length vc]] w' fun e w''=>e= .returned (.tuple #[.slice none 0 0,.int .i64 (F3 set regs bs)])∧Below w'.heap.size w' w''):=hid (fun w' h=>(CL.out w' h).mono fun e w'' hh=>⟨hh.1.elim (fun h=>h.2) (fun h=>absurd h.1 hz),hh.2⟩);have CC2:Hid (∀w',Since W1 w'→Calls prog 17 #[.int .i64 set,.agg #[.int .i64 regs,.slice va bs.length vc]] w' fun e w''=>e= .returned (.tuple #[.bool false,.int .i64 (F3 set regs bs)])∧Below w'.heap.size w' w''):=hid (fun w' h=>(CC.out w' h).mono fun e w'' hh=>⟨hh.1.elim (fun h=>h.2) (fun h=>absurd h.1 hz),hh.2⟩);have d1:(F3 set regs bs !=0)=true:=by simpa using hz
   generalize F3 set regs bs=q at*
   clear CS CL CC CE CZ;go_enter func4,ntmps4;go_wp2_with(first|(go_at_call 7;(with_reducible refine CLg.out.mono ?_);rintro e w2 ⟨rfl,hb2⟩;have HS2:Hid (Since W1 w2):=hid hb2;have p0:=HS2.out.cell P0.out;have p1:=HS2.out.cell P1.out)|(go_at_call 15;(with_reducible refine(CS2.out _ HS2.out).mono ?_);rintro e w3 ⟨rfl,hb3⟩;have HS3:=hid (Since.next HS2.out hb3);have p0:=HS3.out.cell P0.out;have p1:=HS3.out.cell P1.out)|(go_at_call 16;(with_reducible refine(CL2.out _ HS3.out).mono ?_);rintro e w4 ⟨rfl,hb4⟩;have HS4:=hid (Since.next HS3.out hb4);have p0:=HS4.out.cell P0.out;have p1:=HS4.out.cell P1.out)|(go_at_call 17;(with_reducible refine(CC2.out _ HS4.out).mono ?_);rintro e w5 ⟨rfl,hb5⟩;have HS5:=hid (Since.next HS4.out hb5);have p0:=HS5.out.cell P0.out;have p1:=HS5.out.cell P1.out)|(go_at_call 10;(with_reducible refine(CA.out _ HS5.out).mono ?_);rintro e w6 ⟨rfl,hb6⟩;have HS6:=hid (Since.next HS5.out hb6);have p0:=HS6.out.cell P0.out;have p1:=HS6.out.cell P1.out)|(go_at_call 8;(with_reducible refine(CK.out _).mono ?_);rintro e w7 ⟨rfl,hb7⟩;have HB7:=hid hb7))
   go_ret;exact⟨rfl,A8 (A8 BB.out HS6.out) HB7.out⟩
  ·obtain⟨HSR,hvp⟩:=A0J hz;have HPC:=hid (d9 hvp hi);have hb0:0<bs.length:=by have:=(M8 hvp).1;unfold H3 at this;omega
   have HLB:=hid (show∀(lo:List Bool) (j:Nat),j<toC bs→D4 set bs.flatten lo j<D4 set bs.flatten lo (j+1)from fun lo j hj=>by
    have:=(S4 HSR (HPC.out j (by rw[E6];exact hj)) (lo.getD j false)).1;show _<D4 set bs.flatten lo j+_
    omega)
   have HOB:=hid (show∀lo:List Bool,D4 set bs.flatten lo (toC bs)≤45*toC bs from fun lo=>by
    have:=y6 set bs.flatten lo 45 (toC bs) (fun i hi=>(S4 HSR (HPC.out i (by rw[E6];exact hi)) _).2.1) (toC bs) (Nat.le_refl _);exact this)
   have HOF:=hid (show∀(lo:List Bool) (i:Nat),i≤toC bs→D4 set bs.flatten lo i≤22500 from fun lo i hi=>S3 HSR HPC.out (by rw[E6];exact h0) lo (by rw[E6];exact hi));have HSS:Hid (set=0∨set=1):=hid (by rcases HSR with⟨h,_⟩|⟨h,_⟩<;>omega);have CS2:Hid (∀w',Since W1 w'→Calls prog 15 #[.int .i64 set,.agg #[.int .i64 regs,.slice va bs.length vc]] w' fun e w''=>∃lo u,Relx set bs.flatten (blS bs) lo∧e= .returned (.tuple #[u,.int .i64 0])∧Ints .i64 w'' u (n9 set bs lo)∧Below w'.heap.size w' w''):=hid (fun w' h=>(CS.out w' h).mono fun e w'' hh=>by
    rcases hh.1 with h2|⟨_,lo,u,h3,h4,h5⟩
    ·exact absurd hz h2.1
    ·exact⟨lo,u,h3,h4,RowI.ints (xs:=n9 set bs lo) h5 (by rw[A0i];omega),hh.2⟩)
   have CL2:Hid (∀w',Since W1 w'→Calls prog 16 #[.int .i64 set,.agg #[.int .i64 regs,.slice va bs.length vc]] w' fun e w''=>∃lo u,Relx set bs.flatten (blS bs) lo∧e= .returned (.tuple #[u,.int .i64 0])∧Ints .i64 w'' u (trL lo (toC bs))∧Below w'.heap.size w' w''):=hid (fun w' h=>(CL.out w' h).mono fun e w'' hh=>by
    rcases hh.1 with h2|⟨_,lo,u,h3,h4,h5⟩
    ·exact absurd hz h2.1
    ·refine⟨lo,u,h3,h4,?_,hh.2⟩;rw[E6]at h5;exact RowI.ints h5 (by have:=v6 lo (toC bs);omega))
   have CC2:Hid (∀w',Since W1 w'→Calls prog 17 #[.int .i64 set,.agg #[.int .i64 regs,.slice va bs.length vc]] w' fun e w''=>e= .returned (.tuple #[.bool true,.int .i64 0])∧Below w'.heap.size w' w''):=hid (fun w' h=>(CC.out w' h).mono fun e w'' hh=>⟨hh.1.elim (fun h=>absurd hz h.1) (fun h=>h.2),hh.2⟩);have CE2:Hid (∀lo,Relx set bs.flatten (blS bs) lo→8192<D4 set bs.flatten lo (toC bs)→∀w',Since W1 w'→Calls prog 9 #[.int .i64 set,.agg #[.int .i64 regs,.slice va bs.length vc]] w' fun e w''=>e= .returned (.tuple #[.agg #[.slice none 0 0,.slice none 0 0,.slice none 0 0],.int .i64 3])∧Below w'.heap.size w' w''):=hid (fun lo hr hb w' h=>(CE.out w' h).mono fun e w'' hh=>by
    rcases hh.1 with h2|⟨_,lo2,h3,⟨h4,h5⟩|⟨h4,h5⟩⟩
    ·exact absurd hz h2.1
    ·exact⟨h5,hh.2⟩
    ·rw[E6,h3.one hr]at h4;omega)
   have CE3:Hid (∀lo,Relx set bs.flatten (blS bs) lo→¬8192<D4 set bs.flatten lo (toC bs)→∀w',Since W1 w'→Calls prog 9 #[.int .i64 set,.agg #[.int .i64 regs,.slice va bs.length vc]] w' fun e w''=>∃D S1,e= .returned (.tuple #[.agg #[.slice (some ⟨D,0,none⟩) (D4 set bs.flatten lo (toC bs)) (D4 set bs.flatten lo (toC bs)),.slice (some ⟨S1,0,none⟩) 1 1,.slice none 0 0],.int .i64 0])∧Below w'.heap.size w' w''):=hid (fun lo hr hb w' h=>(CE.out w' h).mono fun e w'' hh=>by
    rcases hh.1 with h2|⟨_,lo2,h3,⟨h4,h5⟩|⟨h4,D,S1,h5,_⟩⟩
    ·exact absurd hz h2.1
    ·rw[E6,h3.one hr]at h4;omega
    ·rw[E6,h3.one hr]at h5;exact⟨D,S1,h5,hh.2⟩)
   have CA2:Hid (∀w',Since W1 w'→Calls prog 10 #[.int .i64 set,.agg #[.int .i64 regs,.slice va bs.length vc]] w' fun e w''=>e= .returned (.int .i64 0)∧Below w'.heap.size w' w''):=hid (fun w' h=>by have:=CA.out w' h;rw[hz]at this;exact this);have CZ2:=hid (CZ.out hvp);have HVP:=hid hvp;clear CS CL CC CE CZ CA hz HSR hvp;go_enter func4,ntmps4;go_upto_region 9 with(first|(go_at_call 7;(with_reducible refine CLg.out.mono ?_);rintro e w2 ⟨rfl,hb2⟩;have HS2:Hid (Since W1 w2):=hid hb2;have p0:=HS2.out.cell P0.out;have p1:=HS2.out.cell P1.out)|(go_at_call 15;(with_reducible refine(CS2.out _ HS2.out).mono ?_);rintro e w3 ⟨lo,u,h23,rfl,hi3,hb3⟩;have HS3:=hid (Since.next HS2.out hb3);have HI3:=hid hi3;clear hi3;have p0:=HS3.out.cell P0.out;have p1:=HS3.out.cell P1.out)|(go_at_call 16;(with_reducible refine(CL2.out _ HS3.out).mono ?_);rintro e w4 ⟨lo2,u2,h24,rfl,hi4,hb4⟩;have HS4:=hid (Since.next HS3.out hb4);have HL4:=hid hi4;clear hi4;have p0:=HS4.out.cell P0.out;have p1:=HS4.out.cell P1.out)|(go_at_call 17;(with_reducible refine(CC2.out _ HS4.out).mono ?_);rintro e w5 ⟨rfl,hb5⟩;have HS5:=hid (Since.next HS4.out hb5);have p0:=HS5.out.cell P0.out;have p1:=HS5.out.cell P1.out)|(go_at_call 10;(with_reducible refine(CA2.out _ HS5.out).mono ?_);rintro e w6 ⟨rfl,hb6⟩;have HS6:=hid (Since.next HS5.out hb6);have p0:=HS6.out.cell P0.out;have p1:=HS6.out.cell P1.out))
   rw[h24.one h23]at HL4;have HRX:=hid h23;clear h23 h24;have HI6:Hid (Ints .i64 w6 u (n9 set bs lo)):=hid (((HI3.out.stays hb4).stays hb5).stays hb6);have HL6:Hid (Ints .i64 w6 u2 (trL lo (toC bs))):=hid ((HL4.out.stays hb5).stays hb6);by_cases hzb:8192<D4 set bs.flatten lo (toC bs)
   ·have C7:=hid (CE2.out lo HRX.out hzb);have hob:=HOB.out lo;have d7:decide ((100:Int)<(toC bs:Int))=true:=decide_eq_true (by omega);go_wp2_with(first|(go_at_call 9;(with_reducible refine(C7.out _ HS6.out).mono ?_);rintro e w7 ⟨rfl,hb7⟩;have HS7:Hid (Since W1 (w7.alloc (.cells #[.slice none 0 0,.slice none 0 0,.slice none 0 0] 32))):=hid ((Since.next HS6.out hb7).alloc (Since.next HS6.out hb7).size _);have p0:=HS7.out.cell P0.out;have p1:=HS7.out.cell P1.out)|(go_at_call 11;(with_reducible refine(CZ2.out _ HS7.out).mono ?_);rintro e w8 ⟨rfl,hb8⟩;have HS8:=hid (Since.next HS7.out hb8))|(go_at_call 8;(with_reducible refine(CK.out _).mono ?_);rintro e w9 ⟨rfl,hb9⟩;have HB9:=hid hb9))
    go_ret;exact⟨rfl,A8 (A8 BB.out HS8.out) HB9.out⟩
   ·have C7:=hid (CE3.out lo HRX.out hzb);have hob:=HOF.out lo (toC bs) (Nat.le_refl _);generalize hzz:D4 set bs.flatten lo (toC bs)=z at*
    go_upto_region 14 with(first|(go_at_call 9;(with_reducible refine(C7.out _ HS6.out).mono ?_);rintro e w7 ⟨D,S1,rfl,hb7⟩;have HB7:Hid (Below w6.heap.size w6 (w7.alloc (.cells #[.slice (some ⟨D,0,none⟩) z z,.slice (some ⟨S1,0,none⟩) 1 1,.slice none 0 0] 32))):=hid (hb7.alloc hb7.size _);have HS7:=hid (Since.next HS6.out HB7.out);have p0:=HS7.out.cell P0.out;have p1:=HS7.out.cell P1.out;have o0:(w7.alloc (.cells #[.slice (some ⟨D,0,none⟩) z z,.slice (some ⟨S1,0,none⟩) 1 1,.slice none 0 0] 32)).cell? ⟨w7.heap.size,0,none⟩=some (.slice (some ⟨D,0,none⟩) z z):=(by simp[go_sem]))|(go_at_call 11;(with_reducible refine(CZ2.out _ HS7.out).mono ?_);rintro e w8 ⟨rfl,hb8⟩;have HS8:=hid (Since.next HS7.out hb8);have o0:=A7 hb8 (B6 o0) o0;have HB8:=hid (A8 HB7.out hb8)))
    have HI8:Hid (Ints .i64 w8 u (n9 set bs lo)):=hid (HI6.out.stays HB8.out);have HL8:Hid (Ints .i64 w8 u2 (trL lo (toC bs))):=hid (HL6.out.stays HB8.out);have hln:=A0i set bs lo;obtain⟨b0,q0,c0,rfl,hc0,hb0l,x0⟩:=HI8.out.at (j:=0) (by omega);obtain⟨b0',q0',c0',e8,_,_,x1⟩:=HI8.out.at (j:=toC bs) (by omega);cases e8;rw[x9 set bs lo (Nat.zero_le _)]at x0;rw[x9 set bs lo (Nat.le_refl _),hzz]at x1;have hx00:D4 set bs.flatten lo 0=0:=rfl;rw[hx00]at x0;have x0:w8.cell? ⟨b0,q0,none⟩=some (.int .i64 0):=x0;obtain⟨ua2,uc2,rfl,hl21,hl22⟩:=HL8.out.shape;have HLN:=hid hln;obtain⟨n1,HN1,hn1⟩:∃n1:Nat,Hid (n1=toC bs+1)∧IntKind.i64.wrap ((toC bs:Int)+1)=(n1:Int):=⟨toC bs+1,hid rfl,by rw[IntWalk.i64_left];rw[IntWalk.wrap64_in _ (by omega)];rfl⟩
    have hi1:(0:Int)<(n1:Int):=by have:=HN1.out;omega
    have hi1n:0<n1:=by have:=HN1.out;omega
    have hi2n:toC bs<n1:=by have:=HN1.out;omega
    have hi2:(toC bs:Int)<(n1:Int):=by have:=HN1.out;omega
    have hlq:(n9 set bs lo).length=n1:=by rw[HN1.out];exact hln
    clear hln hl21;rw[hlq]at HI8⊢;have HTL:=hid (v6 lo (toC bs));generalize hkn:toC bs=kn at*
    go_quiet(fail)
    have hB9:Hid (Below w8.heap.size w8 (w8.drewN nq)):=hid (B8 (Below.refl _ _) _);clear x0 x1 o0 p0 p1;generalize w8.drewN nq=w9 at*
    have HS9:Hid (Since W1 w9):=hid (A8 HS8.out hB9.out);have HFL:Hid (bs.flatten.length=kn):=hid ((E6 bs).trans hkn);have HOK:=hid HRX.out.ok;go_wp2_with fail
    go_loopw[18,19,20,21] (fun k b _ _ wr=>∃(j:Nat),j≤bs.length∧b= .int .i64 (j:Nat)∧k= .int .i64 (toC (bs.take j):Nat)∧Hid (Below w9.heap.size w9 wr)) (fun _ b _ _ _=>bs.length-(intOf b).toNat)
    case atStart=>exact⟨0,Nat.zero_le _,rfl,rfl,hid (Below.refl _ _)⟩
    case round=>
     obtain⟨j,hj,rfl,rfl,HBr⟩:=hrel;have HSr:Hid (Since W1 wr):=hid (A8 HS9.out HBr.out);have p1:=HSr.out.cell P1.out;by_cases hlt:j<bs.length
     ·have hlt':(j:Int)<(bs.length:Int):=Int.ofNat_lt.2 hlt;have hj1:IntKind.i64.wrap ((j:Int)+1)=((j+1:Nat):Int):=by rw[IntWalk.i64_left];exact IntWalk.wrap64_in _ (by omega)
      obtain⟨wo,rfl⟩:∃wo:World,wo=wr:=⟨_,rfl⟩
      obtain⟨pb,pq,pc,u,ca,cc,e',hc0',hpb,x0w,rfl,hcds⟩:=HV1.out.at hlt;cases e';have HCD:=hid hcds;have X0:=hid x0w;have HSN:=hid (O5 hlt);have HTE:=hid (T9 (bs:=bs) (j+1));have HFA:=hid (z8 bs j);have HHL:=hid hlt;clear hcds x0w;generalize htk:toC (bs.take j)=tk at*
      generalize hbl:bs.getD j []=bl at*
      have HLE:Hid (tk+bl.length≤kn):=hid (by have:=HSN.out;have:=HTE.out;omega);go_wp2_with fail
      go_loopw[18,20,21] (fun k i _ wr=>∃(m:Nat),m≤bl.length∧i= .int .i64 (m:Nat)∧k= .int .i64 ((tk+m:Nat):Nat)∧Hid (Below w9.heap.size w9 wr)) (fun _ i _ _=>bl.length-(intOf i).toNat)
      case atStart=>exact⟨0,Nat.zero_le _,rfl,rfl,HBr⟩
      case round=>
       obtain⟨m,hm,rfl,rfl,HBm⟩:=hrel;have HSm:Hid (Since W1 wr):=hid (A8 HS9.out HBm.out);have p1:=HSm.out.cell P1.out;have x0:=HSm.out.cell X0.out;by_cases hml:m<bl.length
       ·have hml':(m:Int)<(bl.length:Int):=Int.ofNat_lt.2 hml;have hm1:IntKind.i64.wrap ((m:Int)+1)=((m+1:Nat):Int):=by rw[IntWalk.i64_left];exact IntWalk.wrap64_in _ (by have:=HLE.out;omega)
        obtain⟨kb,kq,kc,e9,hkc,hkb,hcd⟩:=(HCD.out.stays HSm.out).at hml;cases e9;have c0:=hcd.1;have hfa:=HFA.out m HHL.out hml;have HOKm:=hid (HOK.out (tk+m));rw[hfa]at HOKm;have hup:=HLB.out lo (tk+m) (by have:=HLE.out;omega);have hI:Ints .i64 wr _ (n9 set bs lo):=(HI8.out.stays hB9.out).stays HBm.out;obtain⟨i0,i1,i2,ei,_,_,y0⟩:=hI.at (j:=tk+m) (by rw[hlq];have:=HLE.out;have:=HN1.out;omega);rw[(O6 ei).1,(O6 ei).2]at y0;obtain⟨i0',i1',i2',ei2,_,_,y1⟩:=hI.at (j:=tk+m+1) (by rw[hlq];have:=HLE.out;have:=HN1.out;omega);rw[(O6 ei2).1,(O6 ei2).2]at y1;clear ei ei2;rw[x9 set bs lo (by rw[hkn];have:=HLE.out;omega)]at y0 y1;have hk1:IntKind.i64.wrap (((tk+m:Nat):Int)+1)=((tk+m+1:Nat):Int):=by rw[IntWalk.i64_left];exact IntWalk.wrap64_in _ (by have:=HLE.out;omega)
        have hn2:((tk+m:Nat):Int)<(n1:Int):=by have:=HLE.out;have:=HN1.out;omega
        have hn3:((tk+m+1:Nat):Int)<(n1:Int):=by have:=HLE.out;have:=HN1.out;omega
        have CHA:=hid (fun n=>A9t (trL lo kn) _ ((tk+m:Nat):Int) (wr.drewN n) (((HL8.out.stays hB9.out).stays HBm.out).stays (B8 (Below.refl _ _) n)) (by have:=HTL.out;omega));rw[A5k (by have:=HLE.out;omega)]at CHA;clear hI hfa hcd;generalize D4 set bs.flatten lo (tk+m)=pn at*
        generalize D4 set bs.flatten lo (tk+m+1)=p1n at*
        generalize hk2:tk+m+1=k2 at*
        generalize hkk:tk+m=kk at*
        generalize hxx:bl.getD m default=x at*
        have hd1:decide ((p1n:Int)<(pn:Int))=false:=decide_eq_false (by omega);have hd2:decide (p1n<pn)=false:=decide_eq_false (by omega);cases hlb:lo.getD kk false
        ·skip
         have CH:Hid (∀n,Calls prog 18 #[.slice ua2 (trL lo kn).length uc2,.int .i64 (kk:Nat)] (wr.drewN n) fun e w'=>e= .returned (.bool false)∧wr.drewN n=w'):=hid (fun n=>by have:=CHA.out n;rw[hlb]at this;exact this);exact A7J
        obtain⟨hbr,hs0⟩:=HOKm.out hlb;rcases A6b hbr with ho|ho
        ·rw[ho]at c0;have hset:(set==0)=false:=by
          have h1:set≠0:=fun e=>hs0 e ho
          simpa using h1
         have hset2:¬set=0:=fun e=>hs0 e ho
         clear hbr hs0 ho;have CH:Hid (∀n,Calls prog 18 #[.slice ua2 (trL lo kn).length uc2,.int .i64 (kk:Nat)] (wr.drewN n) fun e w'=>e= .returned (.bool true)∧wr.drewN n=w'):=hid (fun n=>by have:=CHA.out n;rw[hlb]at this;exact this);exact A7J
        ·rw[ho]at c0;clear hbr hs0 ho;have CH:Hid (∀n,Calls prog 18 #[.slice ua2 (trL lo kn).length uc2,.int .i64 (kk:Nat)] (wr.drewN n) fun e w'=>e= .returned (.bool true)∧wr.drewN n=w'):=hid (fun n=>by have:=CHA.out n;rw[hlb]at this;exact this);exact A7J
       ·obtain rfl:m=bl.length:=by omega
        have hd:decide ((bl.length:Int)<(bl.length:Int))=false:=decide_eq_false (by omega);have HE:Hid (tk+bl.length=toC (bs.take (j+1))):=hid (by rw[HSN.out]);go_wp2_with fail
        go_roundw
        case rel=>exact⟨j+1,by omega,by go_num,by rw[←HE.out],HBm⟩
        case measure=>simp[intOf];omega
     ·obtain rfl:j=bs.length:=by omega
      have hd:decide ((bs.length:Int)<(bs.length:Int))=false:=decide_eq_false (by omega);go_wp2_with fail
      go_loopw[22] (fun i wr=>∃(m:Nat),m≤(trL lo kn).length∧i= .int .i64 (m:Nat)∧Hid (Below w9.heap.size w9 wr)) (fun i _=>(trL lo kn).length-(intOf i).toNat)
      case atStart=>exact⟨0,Nat.zero_le _,rfl,HBr⟩
      case round=>
       obtain⟨m,hm,rfl,HBm⟩:=hrel;by_cases hml:m<(trL lo kn).length
       ·have HLm:Hid (Ints .i64 wr (.slice ua2 (trL lo kn).length uc2) (trL lo kn)):=hid ((HL8.out.stays hB9.out).stays HBm.out);obtain⟨lb,lq,lc,el,_,_,y0⟩:=HLm.out.at hml;have hyi:=A7E hml;have hm1:IntKind.i64.wrap ((m:Int)+1)=((m+1:Nat):Int):=by rw[IntWalk.i64_left];exact IntWalk.wrap64_in _ (by have:=HTL.out;omega)
        have hml':(m:Int)<((trL lo kn).length:Int):=Int.ofNat_lt.2 hml;rcases Nat.eq_zero_or_pos m with h00|h00
        ·subst h00;cases el;have y0:wr.cell? ⟨lb,lq,none⟩=some (.int .i64 ((trL lo kn).getD 0 0)):=y0;generalize(trL lo kn).getD 0 0=y at*
         have hd1:decide (y<0)=false:=decide_eq_false (by omega);have hd2:decide ((kn:Int)≤y)=false:=decide_eq_false (by omega);go_wp2_with fail
         go_quiet(fail)
         go_wp2_with fail
         go_roundw
         case rel=>exact⟨1,by omega,by go_num,hid (B8 HBm.out _)⟩
         case measure=>simp[intOf];omega
        ·obtain⟨m',hmm⟩:∃m',m=m'+1:=⟨m-1,by omega⟩
         have hup:=A7C (lo:=lo) (n:=kn) (i:=m') (by omega);obtain⟨lb',lq',lc',el',_,_,y1⟩:=HLm.out.at (j:=m') (by omega);cases el;rw[(O6 el').1,(O6 el').2]at y1;rw[←hmm]at hup;have hm2:IntKind.i64.wrap ((m:Int)-1)=(m':Int):=by rw[IntWalk.i64_left,IntWalk.wrap64_in _ (by have:=HTL.out;omega)];omega
         have hgt:decide ((0:Int)<(m:Int))=true:=decide_eq_true (by omega);have hgt2:decide (0<m)=true:=decide_eq_true h00;have hml2:(m':Int)<((trL lo kn).length:Int):=by omega
         clear el';generalize(trL lo kn).getD m 0=y at*
         generalize(trL lo kn).getD m' 0=y' at*
         have HMM:=hid hmm;clear hmm;have hd1:decide (y<0)=false:=decide_eq_false (by omega);have hd2:decide ((kn:Int)≤y)=false:=decide_eq_false (by omega);have hd3:decide (y≤y')=false:=decide_eq_false (by omega);go_wp2_with fail
         go_quiet(fail)
         go_wp2_with fail
         go_roundw
         case rel=>exact⟨m+1,by omega,by go_num,hid (B8 HBm.out _)⟩
         case measure=>simp[intOf];omega
       ·obtain rfl:m=(trL lo kn).length:=by omega
        have hd:decide (((trL lo kn).length:Int)<((trL lo kn).length:Int))=false:=decide_eq_false (by omega);go_wp2_with(go_at_call 8;(with_reducible refine(CK.out _).mono ?_);rintro e wz ⟨rfl,hbz⟩;have HBZ:=hid hbz)
        go_ret;exact⟨rfl,A8 (A8 (A8 BB.out HS9.out) HBm.out) HBZ.out⟩
end Go.Proofs.YtajljbmeaeeknaaGreat
namespace Go.Proofs.YtajljbmeaeeknaaGreat
open Go.RowKit Go.WideShapes Go.ChangeShapes Go.Deep
set_option linter.unusedVariables false
set_option linter.unusedSimpArgs false
section
variable {H : Type} {enc : TypeId × Value → H} {P : Program} {W : World} {base : Nat} {held : Bool}
structure CdTy(P:Program)(e eb:TypeId)(f0 f1 f2 f3 f4 f5:Field):Prop where
 st:P.underlying e=some (.struct #[f0,f1,f2,f3,f4,f5])
 sb:P.underlying eb=some (.slice e)
 o:f0.offset=0∧f1.offset=1∧f2.offset=2∧f3.offset=3∧f4.offset=4∧f5.offset=5
 u:P.underlying f0.type=some (.int .i64)∧P.underlying f1.type=some (.int .i64)∧P.underlying f2.type=some (.int .i64)∧P.underlying f3.type=some (.int .i64)∧P.underlying f4.type=some (.int .u32)∧P.underlying f5.type=some (.int .i64)
 c:P.cellsOf f0.type=1∧P.cellsOf f1.type=1∧P.cellsOf f2.type=1∧P.cellsOf f3.type=1∧P.cellsOf f4.type=1∧P.cellsOf f5.type=1
 z:P.cellsOf e=6∧P.cellsOf eb=1
 b:1≤P.bytesOf e∧1≤P.bytesOf eb
variable {e eb : TypeId} {f0 f1 f2 f3 f4 f5 : Field}
def CdF(x:Cd):Prop:=0≤x.i∧x.i<4294967296
theorem A5m(T:CdTy P e eb f0 f1 f2 f3 f4 f5)(fuel b o:Nat)(cs:List Value)(d:DataW H)(ps:List MemPlace)(hcs:∀i,i<6→W.cell? ⟨b,o+i,none⟩=cs[i]?)(hl:cs.length=6)
  (h:DataW.trod enc P W base (fun _=>true) held fuel e cs=some (d,ps)) (hw:∀n∈d.weights P e,n≤reachBytes):∃x:Cd,A2b W b o x∧CdF x:=by
 obtain⟨xs,n,_,hx,_,hn,hf⟩:=DataW.trod_struct T.st h;obtain⟨o0,o1,o2,o3,o4,o5⟩:=T.o;obtain⟨k0,k1,k2,k3,k4,k5⟩:=T.c;obtain⟨t0,t1,t2,t3,t4,t5⟩:=T.u
 match cs,hl with
 |[v0,v1,v2,v3,v4,v5],_=>
 match xs,hn with
 |[y0,y1,y2,y3,y4,y5],_=>
 have q0:=hf 0 f0 rfl;rw[o0,k0]at q0;obtain⟨n0,a0,_,w0⟩:=DataW.trod_int t0 (show DataW.trod enc P W base (fun _=>true) held n f0.type [v0]=some y0 from q0);cases a0;have q1:=hf 1 f1 rfl;rw[o1,k1]at q1;obtain⟨n1,a1,_,w1⟩:=DataW.trod_int t1 (show DataW.trod enc P W base (fun _=>true) held n f1.type [v1]=some y1 from q1);cases a1;have q2:=hf 2 f2 rfl;rw[o2,k2]at q2;obtain⟨n2,a2,_,w2⟩:=DataW.trod_int t2 (show DataW.trod enc P W base (fun _=>true) held n f2.type [v2]=some y2 from q2);cases a2;have q3:=hf 3 f3 rfl;rw[o3,k3]at q3;obtain⟨n3,a3,_,w3⟩:=DataW.trod_int t3 (show DataW.trod enc P W base (fun _=>true) held n f3.type [v3]=some y3 from q3);cases a3;have q4:=hf 4 f4 rfl;rw[o4,k4]at q4;obtain⟨n4,a4,_,w4⟩:=DataW.trod_int t4 (show DataW.trod enc P W base (fun _=>true) held n f4.type [v4]=some y4 from q4);cases a4;have q5:=hf 5 f5 rfl;rw[o5,k5]at q5;obtain⟨n5,a5,_,w5⟩:=DataW.trod_int t5 (show DataW.trod enc P W base (fun _=>true) held n f5.type [v5]=some y5 from q5);cases a5;refine⟨⟨n0,n1,n2,n3,n4,n5⟩,⟨hcs 0 (by omega),hcs 1 (by omega),hcs 2 (by omega),hcs 3 (by omega),hcs 4 (by omega),hcs 5 (by omega)⟩,?_⟩;have:0≤n4∧n4≤4294967295:=by simpa[Lit.wf,IntKind.min,IntKind.max,IntKind.signed,IntKind.bits]using w4
 show 0≤n4∧n4<4294967296
 omega
theorem A5n{t:TypeId}(ht:P.underlying t=some (.slice eb))(T:CdTy P e eb f0 f1 f2 f3 f4 f5){fuel:Nat}{cs:List Value}{d:DataW H}{ps:List MemPlace}
  (h:DataW.trod enc P W base (fun _=>true) held fuel t cs=some (d,ps)) (hw:∀n∈d.weights P t,n≤reachBytes):∃v bs,cs=[v]∧Bls W v bs∧A0M bs:=by
 obtain⟨v,l,h1,h2,h3⟩:=A2g (α:=List Cd) (z:=1) (R:=fun b o l=>∃u,W.cell? ⟨b,o,none⟩=some u∧Cds W u l) (F:=fun l=>∀x∈l,CdF x) ht T.z.2 (by omega) T.b.2 (fun fuel b o cs d ps hc hl hd hwd=>by
  match cs,hl with
  |[u],_=>
  obtain⟨v,l,h1,h2,h3⟩:=A2g (R:=A2b W) (F:=CdF) T.sb T.z.1 (by omega) T.b.1 (A5m T) hd hwd;cases h1;exact⟨l,⟨u,hc 0 (by omega),h2⟩,h3⟩) h hw
 exact⟨v,l,h1,h2,h3⟩
end
end Go.Proofs.YtajljbmeaeeknaaGreat
