/- -/
import Derived.Shelf.SlicesQ.IndexFunc
import Derived.Ground.SlgfProg
import Derived.Test.YtajljbmeaeeknaaGreatS2
import Derived.Test.YtajljbmeaeeknaaGreatS10
import Derived.Test.YtajljbmeaeeknaaGreatS17
open Go.Proofs.Tryz
open Go.Lib (hid)
set_option maxRecDepth 100000
namespace Go.Proofs.YtajljbmeaeeknaaGreat
open Go.RowKit Go.Maps
set_option linter.unusedVariables false
set_option linter.unusedSimpArgs false
theorem A5r{p:Prop}(h:p:=by
 go_roundw
 case rel=>exact⟨i+1,by omega,by go_num,trivial,hid (fun k hk=>by rcases Nat.lt_or_ge k i with h|h;exact HOK2.out k h;rw[show k=i by omega];exact HQ.out)⟩
 case measure=>simp[intOf];omega
 ):p:=h
theorem A8h{p:Prop}(h:p:=by
 go_enter func39,ntmps39;go_upto_region 60 with(go_at_call 41;(first|(with_reducible refine(CW1.out _).mono ?_)|(with_reducible refine(CW2.out _).mono ?_));rintro e w' ⟨rfl,rfl⟩)
 go_ret;exact⟨E9 HE.out.symm,BB.out⟩
 ):p:=h
def V4(regs:Int)(bs:List (List Cd)):Prop:=∀j,j<bs.length→∀i,i<(bs.getD j []).length→I9 regs bs.length ((bs.getD j []).getD i default)=true
instance (regs:Int) (bs:List (List Cd)):Decidable (V4 regs bs):=by unfold V4;infer_instance
def N5(l:List Cd):Prop:=l.length≠0∧∀i,i<l.length→N1 (l.getD i default).o=decide (i+1=l.length)
instance (l:List Cd):Decidable (N5 l):=by unfold N5;infer_instance
def R4(bs:List (List Cd)):Prop:=∀j,j<bs.length→N5 (bs.getD j [])
instance (bs:List (List Cd)):Decidable (R4 bs):=by unfold R4;infer_instance
def H3(regs:Int)(bs:List (List Cd)):Prop:=0≤regs∧regs≤200∧1≤bs.length∧bs.length≤400∧toC bs≤400
instance (regs:Int) (bs:List (List Cd)):Decidable (H3 regs bs):=by unfold H3;infer_instance
def K9(regs:Int)(bs:List (List Cd)):Int:=if H3 regs bs then(if V4 regs bs then(if R4 bs then 0 else 7)else 1)else 3
theorem A4C{regs:Int}{bs:List (List Cd)}(h:H3 regs bs){j i:Nat}(hj:j<bs.length)(hi:i<(bs.getD j []).length)(hc:I9 regs bs.length ((bs.getD j []).getD i default)=false):K9 regs bs=1:=by
 unfold K9;rw[if_pos h,if_neg (fun hh=>by rw[hh j hj i hi]at hc;cases hc)]
theorem V7{regs:Int}{bs:List (List Cd)}(h:H3 regs bs)(ha:V4 regs bs){j:Nat}(hj:j<bs.length)(hc:¬N5 (bs.getD j [])):K9 regs bs=7:=by
 unfold K9;rw[if_pos h,if_pos ha,if_neg (fun hh=>hc (hh j hj))]
theorem A1c{regs:Int}{bs:List (List Cd)}(h:H3 regs bs)(ha:V4 regs bs)(hc:R4 bs):K9 regs bs=0:=by
 unfold K9;rw[if_pos h,if_pos ha,if_pos hc]
theorem O3{regs:Int}{bs:List (List Cd)}(h:¬H3 regs bs):K9 regs bs=3:=by
 unfold K9;rw[if_neg h]
theorem A2x(regs:Int)(bs:List (List Cd)):(decide (0≤regs)=false∧¬H3 regs bs)∨(decide (0≤regs)=true∧decide (regs≤200)=false∧¬H3 regs bs)∨(decide (0≤regs)=true∧decide (regs≤200)=true∧bs.length=0∧¬H3 regs bs)
  ∨(decide (0≤regs)=true∧decide (regs≤200)=true∧decide (1≤(bs.length:Int))=true∧decide ((bs.length:Int)≤400)=false∧¬H3 regs bs)∨(decide (0≤regs)=true∧decide (regs≤200)=true∧decide (1≤(bs.length:Int))=true∧decide ((bs.length:Int)≤400)=true∧decide ((400:Int)<(toC bs:Int))=true∧¬H3 regs bs)
  ∨(decide (0≤regs)=true∧decide (regs≤200)=true∧decide (1≤(bs.length:Int))=true∧decide ((bs.length:Int)≤400)=true∧decide ((400:Int)<(toC bs:Int))=false∧H3 regs bs):=by
 unfold H3;simp only[decide_eq_true_eq,decide_eq_false_iff_not];omega
set_option maxHeartbeats 2000000 in
theorem Z7(regs:Int)(bs:List (List Cd))(v:Value)(w:World)(hv:Bls w v bs)(h0:toC bs≤500)(h1:bs.length≤500):Calls prog 39 #[.agg #[.int .i64 regs,v]] w fun e w'=>e= .returned (.int .i64 (K9 regs bs))∧Below w.heap.size w w':=by
 have HV:=hid hv;obtain⟨va,vc,rfl,hl1,hl2⟩:=hv.shape;obtain⟨W1,hW1⟩:∃W,w.alloc (.cells #[.int .i64 regs,.slice va bs.length vc] 24)=W:=⟨_,rfl⟩
 have BB:Hid (Since w W1):=by rw[←hW1];exact(Below.refl _ _).alloc (Nat.le_refl _) _
 have p0:W1.cell? ⟨w.heap.size,0,none⟩=some (.int .i64 regs):=by rw[←hW1];simp[go_sem]
 have p1:W1.cell? ⟨w.heap.size,1,none⟩=some (.slice va bs.length vc):=by rw[←hW1];simp[go_sem]
 have hs:w.heap.size<W1.heap.size:=by rw[←hW1];simp
 have P0:=hid p0;have P1:=hid p1;have HV1:=hid (HV.out.stays BB.out);have CW:=hid G2;have CC:=hid (A2r regs bs _ W1 HV1.out h0 h1);have HC:=hid (A2x regs bs);clear hv;have CW1:Hid (∀w,Calls prog 41 #[.int .i64 regs,.int .i64 0,.int .i64 200] w fun e w'=>e= .returned (.bool (decide (0≤regs)&&decide (regs≤200)))∧w=w'):=hid (CW.out regs 0 200);have CW2:Hid (∀w,Calls prog 41 #[.int .i64 (bs.length:Int),.int .i64 1,.int .i64 400] w fun e w'=>e= .returned (.bool (decide (1≤(bs.length:Int))&&decide ((bs.length:Int)≤400)))∧w=w'):=hid (CW.out bs.length 1 400);rcases HC.out with⟨t1,hn⟩|⟨t1,t2,hn⟩|⟨t1,t2,t3,hn⟩|⟨t1,t2,t3,t4,hn⟩|⟨t1,t2,t3,t4,t5,hn⟩|⟨t1,t2,t3,t4,t5,hn⟩
 ·have HE:=hid (O3 hn);rw[t1]at CW1;simp only[Bool.false_and]at CW1;clear t1 hn;go_enter func39,ntmps39;go_upto_region 60 with(go_at_call 41;(with_reducible refine(CW1.out _).mono ?_);rintro e w' ⟨rfl,rfl⟩)
  go_ret;exact⟨E9 HE.out.symm,BB.out⟩
 ·have HE:=hid (O3 hn);rw[t1,t2]at CW1;simp only[Bool.and_false]at CW1;clear t1 t2 hn;go_enter func39,ntmps39;go_upto_region 60 with(go_at_call 41;(with_reducible refine(CW1.out _).mono ?_);rintro e w' ⟨rfl,rfl⟩)
  go_ret;exact⟨E9 HE.out.symm,BB.out⟩
 ·have HE:=hid (O3 hn);rw[t1,t2]at CW1;simp only[Bool.and_true]at CW1;have CW2:Hid (∀w,Calls prog 41 #[.int .i64 (bs.length:Int),.int .i64 1,.int .i64 400] w fun e w'=>e= .returned (.bool false)∧w=w'):=by rw[show decide (1≤(bs.length:Int))=false by simp;omega]at CW2;simpa only[Bool.false_and]using CW2
  clear t1 t2 t3 hn;exact A8h
 ·have HE:=hid (O3 hn);rw[t1,t2]at CW1;simp only[Bool.and_true]at CW1;rw[t3,t4]at CW2;simp only[Bool.and_false]at CW2;clear t1 t2 t3 t4 hn;exact A8h
 ·have HE:=hid (O3 hn);rw[t1,t2]at CW1;simp only[Bool.and_true]at CW1;rw[t3,t4]at CW2;simp only[Bool.and_true]at CW2;clear t1 t2 t3 t4 hn;go_enter func39,ntmps39;go_upto_region 60 with(first|(go_at_call 41;(first|(with_reducible refine(CW1.out _).mono ?_)|(with_reducible refine(CW2.out _).mono ?_));rintro e w' ⟨rfl,rfl⟩)|(go_at_call 40;(with_reducible refine CC.out.mono ?_);rintro e w2 ⟨rfl,hb2⟩))
  go_ret;exact⟨E9 HE.out.symm,A8 BB.out hb2⟩
 ·have HN:=hid hn;have hlen:bs.length≤400:=by have:=of_decide_eq_true t4;omega
  rw[t1,t2]at CW1;simp only[Bool.and_true]at CW1;rw[t3,t4]at CW2;simp only[Bool.and_true]at CW2;have hr0:=of_decide_eq_true t1;have hr1:=of_decide_eq_true t2;clear t1 t2 t3 t4 hn;go_enter func39,ntmps39;go_upto_region 3 with(first|(go_at_call 41;(first|(with_reducible refine(CW1.out _).mono ?_)|(with_reducible refine(CW2.out _).mono ?_));rintro e w' ⟨rfl,rfl⟩)|(go_at_call 40;(with_reducible refine CC.out.mono ?_);rintro e w2 ⟨rfl,hb2⟩))
  have HS2:=hid (show Since W1 w2 from hb2);clear hb2 p0 p1 CC CW1 CW2 hW1 t5;go_wp2_with fail
  go_loopw[3,4] (fun b _ wr=>∃j:Nat,j≤bs.length∧b= .int .i64 j∧Since W1 wr∧Hid (∀j',j'<j→∀i,i<(bs.getD j' []).length→I9 regs bs.length ((bs.getD j' []).getD i default)=true)) (fun b _ _=>bs.length-(intOf b).toNat)
  case atStart=>exact⟨0,Nat.zero_le _,rfl,HS2.out,hid (fun j hj=>absurd hj (Nat.not_lt_zero _))⟩
  case round=>
   obtain⟨j,hj,rfl,hsj,HOK⟩:=hrel;have p1:=A7 hsj hs P1.out;by_cases hlt:j<bs.length
   ·have hlt':(j:Int)<bs.length:=Int.ofNat_lt.2 hlt;have hj1:IntKind.i64.wrap ((j:Int)+1)=((j+1:Nat):Int):=by rw[IntWalk.i64_left];exact IntWalk.wrap64_in _ (by omega)
    obtain⟨b,q,c,u,ua,uc,e',hc,hb,x0,rfl,hcd⟩:=(HV1.out.stays hsj).at hlt;cases e';obtain⟨l,hl⟩:∃l,bs.getD j []=l:=⟨_,rfl⟩
    rw[hl]at hcd x0;have HLJ:=hid hl;clear hl;have HCD:=hid hcd;have HSJ:=hid hsj;have X0:=hid x0;have hlen2:=hcd.shape;obtain⟨-,-,-,-,hln⟩:=hlen2;clear hsj hcd x0;obtain⟨wj,rfl⟩:∃wj:World,wj=wr:=⟨_,rfl⟩
    go_wp2_with fail
    clear p1
    go_loopw[4] (fun i' wr=>∃i:Nat,i≤l.length∧i'= .int .i64 i∧Since W1 wr∧Since wj wr∧Hid (∀k,k<i→I9 regs bs.length (l.getD k default)=true)) (fun i' _=>l.length-(intOf i').toNat)
    case atStart=>exact⟨0,Nat.zero_le _,rfl,HSJ.out,Since.refl _,hid (fun k hk=>absurd hk (Nat.not_lt_zero _))⟩
    case round=>
     obtain⟨i,hi,rfl,hs1,hs2,HOK2⟩:=hrel;have p1:=A7 hs1 hs P1.out;have x0:=A7 hs2 hb X0.out;by_cases hlt2:i<l.length
     ·have hlt2':(i:Int)<(l.length:Int):=Int.ofNat_lt.2 hlt2;have hi1:IntKind.i64.wrap ((i:Int)+1)=((i+1:Nat):Int):=by rw[IntWalk.i64_left];exact IntWalk.wrap64_in _ (by omega)
      obtain⟨b2,q2,c2,e',hc2,hb2,y0,y1,y2,y3,y4,y5⟩:=(HCD.out.stays hs2).at hlt2;cases e';obtain⟨wi,rfl⟩:∃wi:World,wi=wr:=⟨_,rfl⟩
      have HSI:=hid hs1;have HSI2:=hid hs2;have HXV:Hid (l.getD i default=l.getD i default):=rfl;obtain⟨x,hx⟩:∃x,l.getD i default=x:=⟨_,rfl⟩
      have CI:=hid (A4y x regs bs.length);cases hB:I9 regs bs.length x
      ·have HX:Hid (I9 regs bs.length ((bs.getD j []).getD i default)=false):=hid (by rw[HLJ.out,hx];exact hB);rw[hB]at CI;rw[hx]at y0 y1 y2 y3 y4 y5;obtain⟨o,d,a,bb,im,t⟩:=x;have CI:Hid (∀wk,Calls prog 73 #[.agg #[.int .i64 o,.int .i64 d,.int .i64 a,.int .i64 bb,.int .u32 im,.int .i64 t],.int .i64 regs,.int .i64 bs.length] wk fun e w'=>e= .returned (.bool false)∧Below wk.heap.size wk w'):=hid (fun wk=>CI.out wk ⟨by omega,by omega⟩ ⟨by omega,by omega⟩);have G1:∀wk,Since wi wk→wk.cell? ⟨w.heap.size,1,none⟩=some (.slice (some ⟨b,q,none⟩) bs.length vc):=fun wk h=>A7 (A8 HSI.out h) hs P1.out
       have G0:∀wk,Since wi wk→wk.cell? ⟨w.heap.size,0,none⟩=some (.int .i64 regs):=fun wk h=>A7 (A8 HSI.out h) hs P0.out
       have GX:∀wk,Since wi wk→wk.cell? ⟨b,q+j,none⟩=some (.slice (some ⟨b2,q2,none⟩) l.length uc):=fun wk h=>A7 (A8 HSI2.out h) hb X0.out
       have Y0:∀wk,Since wi wk→wk.cell? ⟨b2,q2+i*6,none⟩=some (.int .i64 o):=fun wk h=>A7 h hb2 y0
       have Y1:∀wk,Since wi wk→wk.cell? ⟨b2,q2+i*6+1,none⟩=some (.int .i64 d):=fun wk h=>A7 h hb2 y1
       have Y2:∀wk,Since wi wk→wk.cell? ⟨b2,q2+i*6+2,none⟩=some (.int .i64 a):=fun wk h=>A7 h hb2 y2
       have Y3:∀wk,Since wi wk→wk.cell? ⟨b2,q2+i*6+3,none⟩=some (.int .i64 bb):=fun wk h=>A7 h hb2 y3
       have Y4:∀wk,Since wi wk→wk.cell? ⟨b2,q2+i*6+4,none⟩=some (.int .u32 im):=fun wk h=>A7 h hb2 y4
       have Y5:∀wk,Since wi wk→wk.cell? ⟨b2,q2+i*6+5,none⟩=some (.int .i64 t):=fun wk h=>A7 h hb2 y5
       have hS0:=Since.refl wi;clear hx hB hs1 hs2;go_upto_region 9 with fail
       clear p1 x0 y0 y1 y2 y3 y4 y5;refine wp_region_held_drew (S:=(fun wk=>Since wi wk)) (by kernel_rfl) ?_ (fun hHeld=>?_)
       ·exact U1
       refine tk 0 ?_;refine tk 1 ?_;refine tk 2 ?_;refine tk 3 ?_;refine tk 4 ?_;refine tk 5 ?_;refine tk 6 ?_;refine tk 7 ?_;refine tk 8 ?_;refine tk 9 ?_;refine tk 10 ?_;refine tk 11 ?_;refine rd1 12 (fun K hK=>?_);go_simp;refine hK.out _ _ ?_ (fun hHeld=>?_)
       ·exact U1
       clear hK K
       try go_frame
       refine rd1 13 (fun K hK=>?_)
       (go_simp;(go_at_call 73;(with_reducible refine(CI.out _).mono ?_);rintro e w6 ⟨rfl,hb6⟩))
       refine hK.out _ _ ?_ (fun hHeld=>?_)
       ·exact U1
       clear hK K
       try go_frame
       refine tk 14 ?_;refine wpAnyH_done (by kernel_rfl) ?_ _;have hS6:Since wi w6:=(by assumption)
       go_wp2_with fail
       go_ret;exact⟨E9 (A4C HN.out hlt (by rw[HLJ.out];exact hlt2) HX.out).symm,A8 (A8 BB.out HSI.out) hS6⟩
      ·have HX:Hid (I9 regs bs.length (l.getD i default)=true):=hid (by rw[hx];exact hB);rw[hB]at CI;rw[hx]at y0 y1 y2 y3 y4 y5;obtain⟨o,d,a,bb,im,t⟩:=x;have CI:Hid (∀wk,Calls prog 73 #[.agg #[.int .i64 o,.int .i64 d,.int .i64 a,.int .i64 bb,.int .u32 im,.int .i64 t],.int .i64 regs,.int .i64 bs.length] wk fun e w'=>e= .returned (.bool true)∧Below wk.heap.size wk w'):=hid (fun wk=>CI.out wk ⟨by omega,by omega⟩ ⟨by omega,by omega⟩);have G1:∀wk,Since wi wk→wk.cell? ⟨w.heap.size,1,none⟩=some (.slice (some ⟨b,q,none⟩) bs.length vc):=fun wk h=>A7 (A8 HSI.out h) hs P1.out
       have G0:∀wk,Since wi wk→wk.cell? ⟨w.heap.size,0,none⟩=some (.int .i64 regs):=fun wk h=>A7 (A8 HSI.out h) hs P0.out
       have GX:∀wk,Since wi wk→wk.cell? ⟨b,q+j,none⟩=some (.slice (some ⟨b2,q2,none⟩) l.length uc):=fun wk h=>A7 (A8 HSI2.out h) hb X0.out
       have Y0:∀wk,Since wi wk→wk.cell? ⟨b2,q2+i*6,none⟩=some (.int .i64 o):=fun wk h=>A7 h hb2 y0
       have Y1:∀wk,Since wi wk→wk.cell? ⟨b2,q2+i*6+1,none⟩=some (.int .i64 d):=fun wk h=>A7 h hb2 y1
       have Y2:∀wk,Since wi wk→wk.cell? ⟨b2,q2+i*6+2,none⟩=some (.int .i64 a):=fun wk h=>A7 h hb2 y2
       have Y3:∀wk,Since wi wk→wk.cell? ⟨b2,q2+i*6+3,none⟩=some (.int .i64 bb):=fun wk h=>A7 h hb2 y3
       have Y4:∀wk,Since wi wk→wk.cell? ⟨b2,q2+i*6+4,none⟩=some (.int .u32 im):=fun wk h=>A7 h hb2 y4
       have Y5:∀wk,Since wi wk→wk.cell? ⟨b2,q2+i*6+5,none⟩=some (.int .i64 t):=fun wk h=>A7 h hb2 y5
       have hS0:=Since.refl wi;clear hx hB hs1 hs2;go_upto_region 9 with fail
       clear p1 x0 y0 y1 y2 y3 y4 y5;refine wp_region_held_drew (S:=(fun wk=>Since wi wk)) (by kernel_rfl) ?_ (fun hHeld=>?_)
       ·exact U1
       refine tk 0 ?_;refine tk 1 ?_;refine tk 2 ?_;refine tk 3 ?_;refine tk 4 ?_;refine tk 5 ?_;refine tk 6 ?_;refine tk 7 ?_;refine tk 8 ?_;refine tk 9 ?_;refine tk 10 ?_;refine tk 11 ?_;refine rd1 12 (fun K hK=>?_);go_simp;refine hK.out _ _ ?_ (fun hHeld=>?_)
       ·exact U1
       clear hK K
       try go_frame
       refine rd1 13 (fun K hK=>?_)
       (go_simp;(go_at_call 73;(with_reducible refine(CI.out _).mono ?_);rintro e w6 ⟨rfl,hb6⟩))
       refine hK.out _ _ ?_ (fun hHeld=>?_)
       ·exact U1
       clear hK K
       try go_frame
       refine tk 14 ?_;refine wpAnyH_done (by kernel_rfl) ?_ _;have hS6:Since wi w6:=(by assumption)
       go_wp2_with fail
       go_roundw
       case rel=>exact⟨i+1,by omega,by go_num,A8 HSI.out hS6,A8 HSI2.out hS6,hid (fun k hk=>by rcases Nat.lt_or_ge k i with h|h;exact HOK2.out k h;rw[show k=i by omega];exact HX.out)⟩
       case measure=>simp[intOf];omega
     ·obtain rfl:i=l.length:=by omega
      have hd:decide ((l.length:Int)<(l.length:Int))=false:=decide_eq_false (by omega);have HOK3:Hid (∀j',j'<j+1→∀i,i<(bs.getD j' []).length→I9 regs bs.length ((bs.getD j' []).getD i default)=true):=hid (fun j' hj'=>by rcases Nat.lt_or_ge j' j with h|h;exact HOK.out j' h;rw[show j'=j by omega,HLJ.out];exact HOK2.out);have HSI:=hid hs1;clear hs1 hs2;go_wp2_with fail
      go_roundw
      case rel=>exact⟨j+1,by omega,by go_num,HSI.out,HOK3⟩
      case measure=>simp[intOf];omega
   ·obtain rfl:j=bs.length:=by omega
    have hd:decide ((bs.length:Int)<bs.length)=false:=decide_eq_false (by omega);have HSJ:=hid hsj;clear hsj;have HOKA:Hid (V4 regs bs):=hid HOK.out;clear p1 hd;obtain⟨wo,rfl⟩:∃wo:World,wo=wr:=⟨_,rfl⟩
    have hd:decide ((bs.length:Int)<bs.length)=false:=decide_eq_false (by omega);have p1:=A7 HSJ.out hs P1.out;go_wp2_with fail
    clear p1
    go_loopw[5,6,7] (fun b _ _ wr=>∃j:Nat,j≤bs.length∧b= .int .i64 j∧Since W1 wr∧Hid (∀j',j'<j→N5 (bs.getD j' []))) (fun b _ _ _=>bs.length-(intOf b).toNat)
    case atStart=>exact⟨0,Nat.zero_le _,rfl,HSJ.out,hid (fun j hj=>absurd hj (Nat.not_lt_zero _))⟩
    case round=>
     obtain⟨j,hj,rfl,hsj,HRU⟩:=hrel;have p1:=A7 hsj hs P1.out;by_cases hlt:j<bs.length
     ·have hlt':(j:Int)<bs.length:=Int.ofNat_lt.2 hlt;have hj1:IntKind.i64.wrap ((j:Int)+1)=((j+1:Nat):Int):=by rw[IntWalk.i64_left];exact IntWalk.wrap64_in _ (by omega)
      obtain⟨b,q,c,u,ua,uc,e',hc,hb,x0,rfl,hcd⟩:=(HV1.out.stays hsj).at hlt;cases e';obtain⟨l,hl⟩:∃l,bs.getD j []=l:=⟨_,rfl⟩
      rw[hl]at hcd x0;have HLJ:=hid hl;have HCD:=hid hcd;have HSJ2:=hid hsj;obtain⟨-,-,-,-,hln⟩:=hcd.shape;clear hl hsj hcd;obtain⟨wj,rfl⟩:∃wj:World,wj=wr:=⟨_,rfl⟩
      have hsub:IntKind.i64.wrap ((l.length:Int)-1)=(l.length:Int)-1:=by rw[IntWalk.i64_left];exact IntWalk.wrap64_in _ (by omega)
      go_wp2_with fail
      clear p1 x0
      go_loopw[7] (fun i' wr=>∃i:Nat,i≤l.length∧i'= .int .i64 i∧wj=wr∧Hid (∀k,k<i→N1 (l.getD k default).o=decide (k+1=l.length))) (fun i' _=>l.length-(intOf i').toNat)
      case atStart=>exact⟨0,Nat.zero_le _,rfl,rfl,hid (fun k hk=>absurd hk (Nat.not_lt_zero _))⟩
      case round=>
       obtain⟨i,hi,rfl,rfl,HOK2⟩:=hrel;by_cases hlt2:i<l.length
       ·have hlt2':(i:Int)<(l.length:Int):=Int.ofNat_lt.2 hlt2;have hi1:IntKind.i64.wrap ((i:Int)+1)=((i+1:Nat):Int):=by rw[IntWalk.i64_left];exact IntWalk.wrap64_in _ (by omega)
        obtain⟨b2,q2,c2,e',hc2,hb2,y0,-,-,-,-,-⟩:=HCD.out.at hlt2;cases e';have CL:=hid (A4x (l.getD i default).o);obtain⟨x,hx⟩:∃x,(l.getD i default).o=x:=⟨_,rfl⟩
        rw[hx]at y0 CL;have HX:=hid hx;clear hx;have key:(N1 x=decide (i+1=l.length))∨¬(N1 x=decide (i+1=l.length)):=Classical.em _;cases hL:N1 x<;>(
         rw[hL]at CL key;by_cases hq:i+1=l.length)
        ·have e4:((i:Int)==(l.length:Int)-1)=true:=by simp;omega
         have HQ:Hid (¬N5 (bs.getD j [])):=hid (fun h=>by rw[HLJ.out]at h;have:=h.2 i hlt2;rw[HX.out,hL,decide_eq_true hq]at this;cases this);clear key hL hq;go_wp2_with(go_at_call 74;(with_reducible refine(CL.out _).mono ?_);rintro e w' ⟨rfl,rfl⟩)
         go_ret;exact⟨E9 (V7 HN.out HOKA.out hlt HQ.out).symm,A8 BB.out HSJ2.out⟩
        ·have e4:((i:Int)==(l.length:Int)-1)=false:=by simp;omega
         have HQ:Hid (N1 (l.getD i default).o=decide (i+1=l.length)):=hid (by rw[HX.out,hL,decide_eq_false hq]);clear key hL hq;go_wp2_with(go_at_call 74;(with_reducible refine(CL.out _).mono ?_);rintro e w' ⟨rfl,rfl⟩)
         exact A5r
        ·have e4:((i:Int)==(l.length:Int)-1)=true:=by simp;omega
         have HQ:Hid (N1 (l.getD i default).o=decide (i+1=l.length)):=hid (by rw[HX.out,hL,decide_eq_true hq]);clear key hL hq;go_wp2_with(go_at_call 74;(with_reducible refine(CL.out _).mono ?_);rintro e w' ⟨rfl,rfl⟩)
         exact A5r
        ·have e4:((i:Int)==(l.length:Int)-1)=false:=by simp;omega
         have HQ:Hid (¬N5 (bs.getD j [])):=hid (fun h=>by rw[HLJ.out]at h;have:=h.2 i hlt2;rw[HX.out,hL,decide_eq_false hq]at this;cases this);clear key hL hq;go_wp2_with(go_at_call 74;(with_reducible refine(CL.out _).mono ?_);rintro e w' ⟨rfl,rfl⟩)
         go_ret;exact⟨E9 (V7 HN.out HOKA.out hlt HQ.out).symm,A8 BB.out HSJ2.out⟩
       ·obtain rfl:i=l.length:=by omega
        have hd2:decide ((l.length:Int)<(l.length:Int))=false:=decide_eq_false (by omega);by_cases hz:l.length=0
        ·have e0:((l.length:Int)==0)=true:=beq_iff_eq.2 (by omega);have HQ:Hid (¬N5 (bs.getD j [])):=hid (fun h=>by rw[HLJ.out]at h;exact h.1 hz);clear hz;go_wp2_with fail
         go_ret;exact⟨E9 (V7 HN.out HOKA.out hlt HQ.out).symm,A8 BB.out HSJ2.out⟩
        ·have e0:((l.length:Int)==0)=false:=beq_eq_false_iff_ne.2 (by omega);have HQ:Hid (N5 (bs.getD j [])):=hid (by rw[HLJ.out];exact⟨hz,HOK2.out⟩);clear hz;go_wp2_with fail
         go_roundw
         case rel=>exact⟨j+1,by omega,by go_num,HSJ2.out,hid (fun k hk=>by rcases Nat.lt_or_ge k j with h|h;exact HRU.out k h;rw[show k=j by omega];exact HQ.out)⟩
         case measure=>simp[intOf];omega
     ·obtain rfl:j=bs.length:=by omega
      have hd:decide ((bs.length:Int)<bs.length)=false:=decide_eq_false (by omega);have HRA:Hid (R4 bs):=hid HRU.out;go_wp2_with fail
      go_ret;exact⟨E9 (A1c HN.out HOKA.out HRA.out).symm,A8 BB.out hsj⟩
end Go.Proofs.YtajljbmeaeeknaaGreat
namespace Go.Proofs
open Go.Shelf Go.RowKit Go.Lib
theorem A7H{p:Prop}(h:p:=by
 go_wp2_with fail
 go_loopg [5,8] 0 (fun _ _ s8 wr=>s8= .int .i64 0∧wr=w)
 case atStart=>exact⟨rfl,rfl⟩
 case round=>
  obtain⟨rfl,rfl⟩:=hrel;go_wp2_with fail
  go_ret;exact⟨rfl,rfl⟩
 ):p:=h
def contC_ren:Go.Shelf.Ren:=⟨fun|8=>138|6=>202|n=>n,fun|22=>59|23=>61|25=>221|4=>4|3=>3|0=>0|n=>n,fun|n=>n⟩
theorem contC:Go.Proofs.SlLaysH0.n8 prog contC_ren:={
 mixed:=by kernel_rfl
 f6:=⟨f202.name,by decide,func202.trans (congrArg some (by kernel_rfl))⟩
 f8:=⟨f138.name,by decide,func138.trans (congrArg some (by kernel_rfl))⟩
 t0:=underlying0
 a0:=isAgg0
 z0:=sizeOf0
 v0:=zeroValue0
 t3:=underlying3
 a3:=isAgg3
 z3:=sizeOf3
 v3:=zeroValue3
 t4:=underlying4
 a4:=isAgg4
 z4:=sizeOf4
 v4:=zeroValue4
 t22:=underlying59
 a22:=isAgg59
 z22:=sizeOf59
 v22:=zeroValue59
 t25:=underlying221
 a25:=isAgg221
 z25:=sizeOf221
 v25:=zeroValue221}
end Go.Proofs
namespace Go.Proofs.YtajljbmeaeeknaaGreat
open Go.RowKit Go.Maps
set_option linter.unusedVariables false
set_option linter.unusedSimpArgs false
theorem A2N(a:Option Addr)(c:Nat)(f:Value)(w:World):Calls prog 138 #[.slice a 0 c,f] w fun e w'=>e= .returned (.bool false)∧Below w.heap.size w w':=by
 have C:Hid (∀w,Calls prog 202 #[.slice a 0 c,f] w fun e w'=>e= .returned (.int .i64 (-1))∧w=w'):=hid fun w=>by
  go_enter func202,ntmps202;exact A7H
 have HB:=hid (Below.refl w.heap.size w);go_enter func138,ntmps138;go_wp2_with(go_at_call 202;with_reducible refine(C.out _).mono ?_;rintro e w' ⟨rfl,rfl⟩)
 go_ret;exact⟨rfl,HB.out⟩
theorem A2C(l:List Cd)(j:Nat)(h:j<l.length):l[j]! =l.getD j default:=by
 rw[List.getD_eq_getElem?_getD,List.getElem?_eq_getElem h,getElem!_pos l j h];rfl
theorem A3i(l:List Cd)(p:Cd→Bool)(g:Nat)(lb:Array Value)(eg:∀args w,(callFunc g args).run prog w= .ok (.enter g args) w)(v:Value)(w:World)
  (hv:Cds w v l) (hp:PredBelow prog g lb (fun x=>.agg (ncL x).toArray) p w):
  Calls prog 138 #[v,.func (.func g) #[] lb] w fun e w'=>e= .returned (.bool (l.any p))∧Below w.heap.size w w':=by
 obtain⟨a,c,rfl,hc,hl⟩:=hv.shape;by_cases h0:l.length=0
 ·have e:l=[]:=List.eq_nil_of_length_eq_zero h0;subst e;exact A2N a c _ w
 ·obtain⟨b,o,c',e,-,hb,-⟩:=hv.at (j:=0) (by omega);cases e;have:=AnyQ.slices_ContainsFunc contC 6 isAgg61 sizeOf61 ncL (fun _=>rfl) p g lb eg b o l.length c l w hp (Nat.le_refl _) (by omega) hb (fun j hj i v hi=>by
   obtain⟨b',o',c2,e,-,-,h1,h2,h3,h4,h5,h6⟩:=hv.at hj;cases e;rw[A2C l j hj]at hi;generalize l.getD j default=y at hi h1 h2 h3 h4 h5 h6
   match i,hi with
   |0,hi=>simp[ncL]at hi;rw[←hi];exact h1
   |1,hi=>simp[ncL]at hi;rw[←hi];exact h2
   |2,hi=>simp[ncL]at hi;rw[←hi];exact h3
   |3,hi=>simp[ncL]at hi;rw[←hi];exact h4
   |4,hi=>simp[ncL]at hi;rw[←hi];exact h5
   |5,hi=>simp[ncL]at hi;rw[←hi];exact h6
   |i+6,hi=>simp[ncL]at hi)
  rw[List.take_length]at this;exact this
theorem B0M:∀args w,(callFunc 139 args).run prog w= .ok (.enter 139 args) w:=enters_of func139 (by kernel_rfl) rfl
theorem A5t(x:Cd)(regs:Int)(n:Nat)(va:Option Addr)(vc B:Nat)(w:World)(p0:w.cell? ⟨B,0,none⟩=some (.int .i64 regs))(p1:w.cell? ⟨B,1,none⟩=some (.slice va n vc)):
  Calls prog 139 #[.agg (ncL x).toArray,.pointer (some ⟨B,0,none⟩)] w fun e w'=>e= .returned (.bool (!I9 regs n x))∧Below w.heap.size w w':=by
 obtain⟨o,d,a,b,i,t⟩:=x;have C:=hid (A6Q ⟨o,d,a,b,i,t⟩ regs n);generalize I9 regs n ⟨o,d,a,b,i,t⟩=bo at*
 have C:Hid (∀wk,Calls prog 140 #[.agg #[.int .i64 o,.int .i64 d,.int .i64 a,.int .i64 b,.int .u32 i,.int .i64 t],.int .i64 regs,.int .i64 n] wk fun e w'=>e= .returned (.bool bo)∧Below wk.heap.size wk w'):=C;show Calls prog 139 #[.agg #[.int .i64 o,.int .i64 d,.int .i64 a,.int .i64 b,.int .u32 i,.int .i64 t],.pointer (some ⟨B,0,none⟩)] w _
 have hl:=B6 p0;have hne:¬B=w.heap.size:=by omega
 have HB:=hid ((Below.refl w.heap.size w).alloc (Nat.le_refl _) (.cells #[.int .i64 o,.int .i64 d,.int .i64 a,.int .i64 b,.int .u32 i,.int .i64 t] 61));go_enter func139,ntmps139;go_wp2_with((with_reducible refine(C.out _).mono ?_);rintro e w2 ⟨rfl,hb2⟩)
 go_ret;exact⟨rfl,B7 HB.out (by simp) hb2⟩
theorem A5o{p:Prop}(h:p:=by
 go_enter func98,ntmps98;go_upto_region 60 with fail
 go_ret;exact⟨E9 HE.out.symm,BB.out⟩
 ):p:=h
theorem A1i(regs:Int)(bs:List (List Cd)):(decide (regs<0)=true∧¬H3 regs bs)∨(decide (regs<0)=false∧decide (200<regs)=true∧¬H3 regs bs)∨(decide (regs<0)=false∧decide (200<regs)=false∧bs.length=0∧¬H3 regs bs)
  ∨(decide (regs<0)=false∧decide (200<regs)=false∧decide ((bs.length:Int)<1)=false∧decide ((400:Int)<(bs.length:Int))=true∧¬H3 regs bs)∨(decide (regs<0)=false∧decide (200<regs)=false∧decide ((bs.length:Int)<1)=false∧decide ((400:Int)<(bs.length:Int))=false∧decide ((400:Int)<(toC bs:Int))=true∧¬H3 regs bs)
  ∨(decide (regs<0)=false∧decide (200<regs)=false∧decide ((bs.length:Int)<1)=false∧decide ((400:Int)<(bs.length:Int))=false∧decide ((400:Int)<(toC bs:Int))=false∧H3 regs bs):=by
 unfold H3;simp only[decide_eq_true_eq,decide_eq_false_iff_not];omega
theorem A6f{regs:Int}{n:Nat}{l:List Cd}(h:l.any (fun x=> !I9 regs n x)=true):∃i,i<l.length∧I9 regs n (l.getD i default)=false:=by
 obtain⟨x,hx,hb⟩:=List.any_eq_true.1 h;obtain⟨i,hi,rfl⟩:=List.getElem_of_mem hx;refine⟨i,hi,?_⟩;rw[List.getD_eq_getElem?_getD,List.getElem?_eq_getElem hi];simpa using hb
theorem A5X{regs:Int}{n:Nat}{l:List Cd}(h:l.any (fun x=> !I9 regs n x)=false):∀i,i<l.length→I9 regs n (l.getD i default)=true:=by
 intro i hi;rw[List.getD_eq_getElem?_getD,List.getElem?_eq_getElem hi];have:=List.any_eq_false.1 h _ (List.getElem_mem hi);simpa using this
set_option maxHeartbeats 2000000 in
theorem A1p(regs:Int)(bs:List (List Cd))(v:Value)(w:World)(hv:Bls w v bs)(h0:toC bs≤500)(h1:bs.length≤500):Calls prog 98 #[.agg #[.int .i64 regs,v]] w fun e w'=>e= .returned (.int .i64 (K9 regs bs))∧Below w.heap.size w w':=by
 have HV:=hid hv;obtain⟨va,vc,rfl,hl1,hl2⟩:=hv.shape;obtain⟨W1,hW1⟩:∃W,w.alloc (.cells #[.int .i64 regs,.slice va bs.length vc] 24)=W:=⟨_,rfl⟩
 have BB:Hid (Since w W1):=by rw[←hW1];exact(Below.refl _ _).alloc (Nat.le_refl _) _
 have p0:W1.cell? ⟨w.heap.size,0,none⟩=some (.int .i64 regs):=by rw[←hW1];simp[go_sem]
 have p1:W1.cell? ⟨w.heap.size,1,none⟩=some (.slice va bs.length vc):=by rw[←hW1];simp[go_sem]
 have hs:w.heap.size<W1.heap.size:=by rw[←hW1];simp
 have P0:=hid p0;have P1:=hid p1;have HV1:=hid (HV.out.stays BB.out);have CC:=hid (A8d regs bs _ W1 HV1.out h0 h1);have HC:=hid (A1i regs bs);clear hv;rcases HC.out with⟨t1,hn⟩|⟨t1,t2,hn⟩|⟨t1,t2,t3,hn⟩|⟨t1,t2,t3,t4,hn⟩|⟨t1,t2,t3,t4,t5,hn⟩|⟨t1,t2,t3,t4,t5,hn⟩
 ·have HE:=hid (O3 hn);clear hn;exact A5o
 ·have HE:=hid (O3 hn);clear hn;exact A5o
 ·have HE:=hid (O3 hn);have t4:decide ((bs.length:Int)<1)=true:=decide_eq_true (by omega);clear hn t3;exact A5o
 ·have HE:=hid (O3 hn);clear hn;exact A5o
 ·have HE:=hid (O3 hn);clear hn;go_enter func98,ntmps98;go_upto_region 60 with(go_at_call 137;(with_reducible refine CC.out.mono ?_);rintro e w2 ⟨rfl,hb2⟩)
  go_ret;exact⟨E9 HE.out.symm,A8 BB.out hb2⟩
 ·have HN:=hid hn;have hlen:bs.length≤400:=by have:=of_decide_eq_false t4;omega
  clear hn;go_enter func98,ntmps98;go_upto_region 3 with(go_at_call 137;(with_reducible refine CC.out.mono ?_);rintro e w2 ⟨rfl,hb2⟩)
  have HS2:=hid (show Since W1 w2 from hb2);have p1:=A7 hb2 hs P1.out;clear hb2 p0 CC hW1 t5 t1 t2 t3 t4;go_wp2_with fail
  clear p1
  go_loopw[36] (fun i wr=>∃j:Nat,j≤bs.length∧i= .int .i64 j∧Since W1 wr∧Hid (∀j',j'<j→∀i,i<(bs.getD j' []).length→I9 regs bs.length ((bs.getD j' []).getD i default)=true)) (fun i _=>bs.length-(intOf i).toNat)
  case atStart=>exact⟨0,Nat.zero_le _,rfl,HS2.out,hid (fun j hj=>absurd hj (Nat.not_lt_zero _))⟩
  case round=>
   obtain⟨j,hj,rfl,hsj,HOK⟩:=hrel;by_cases hlt:j<bs.length
   ·have hlt':(j:Int)<bs.length:=Int.ofNat_lt.2 hlt;have hj1:IntKind.i64.wrap ((j:Int)+1)=((j+1:Nat):Int):=by rw[IntWalk.i64_left];exact IntWalk.wrap64_in _ (by omega)
    obtain⟨b,q,c,u,ua,uc,e',hc,hb,x0,rfl,hcd⟩:=(HV1.out.stays hsj).at hlt;cases e';obtain⟨l,hl⟩:∃l,bs.getD j []=l:=⟨_,rfl⟩
    rw[hl]at hcd x0;have HLJ:=hid hl;have HSJ:=hid hsj;have CF:=hid (A3i l (fun x=> !I9 regs bs.length x) 139 #[.pointer (some ⟨w.heap.size,0,none⟩)] B0M _ wr hcd (fun W x h=>(A5t x regs bs.length (some ⟨b,q,none⟩) vc w.heap.size W (A7 (A8 hsj h) hs P0.out) (A7 (A8 hsj h) hs P1.out)).mono fun e w' ⟨he,h'⟩=>⟨he,h.trans (h'.mono h.size)⟩));clear hl hsj hcd;cases hB:l.any (fun x=> !I9 regs bs.length x)
    ·have HX:=hid (A5X hB);rw[hB]at CF;clear hB;go_wp2_with((with_reducible refine CF.out.mono ?_);rintro e w3 ⟨rfl,hb3⟩)
     go_roundw
     case rel=>exact⟨j+1,by omega,by go_num,A8 HSJ.out hb3,hid (fun j' hj'=>by rcases Nat.lt_or_ge j' j with h|h;exact HOK.out j' h;rw[show j'=j by omega,HLJ.out];exact HX.out)⟩
     case measure=>simp[intOf];omega
    ·have HX:=hid (A6f hB);rw[hB]at CF;clear hB;go_wp2_with((with_reducible refine CF.out.mono ?_);rintro e w3 ⟨rfl,hb3⟩)
     go_ret;obtain⟨i,hi,hx⟩:=HX.out;exact⟨E9 (A4C HN.out hlt (i:=i) (by rw[HLJ.out];exact hi) (by rw[HLJ.out];exact hx)).symm,A8 (A8 BB.out HSJ.out) hb3⟩
   ·obtain rfl:j=bs.length:=by omega
    have HSJ:=hid hsj;have HOKA:Hid (V4 regs bs):=hid HOK.out;obtain⟨wo,rfl⟩:∃wo:World,wo=wr:=⟨_,rfl⟩
    have hd:decide ((bs.length:Int)<bs.length)=false:=decide_eq_false (by omega);have p1:=A7 HSJ.out hs P1.out;clear hsj;go_wp2_with fail
    clear p1
    go_loopw[6,7,47,53] (fun _ _ i _ wr=>∃j:Nat,j≤bs.length∧i= .int .i64 j∧wo=wr∧Hid (∀j',j'<j→N5 (bs.getD j' []))) (fun _ _ i _ _=>bs.length-(intOf i).toNat)
    case atStart=>exact⟨0,Nat.zero_le _,rfl,rfl,hid (fun j hj=>absurd hj (Nat.not_lt_zero _))⟩
    case round=>
     obtain⟨j,hj,rfl,rfl,HRU⟩:=hrel;by_cases hlt:j<bs.length
     ·have hlt':(j:Int)<bs.length:=Int.ofNat_lt.2 hlt;have hj1:IntKind.i64.wrap ((j:Int)+1)=((j+1:Nat):Int):=by rw[IntWalk.i64_left];exact IntWalk.wrap64_in _ (by omega)
      obtain⟨b,q,c,u,ua,uc,e',hc,hb,x0,rfl,hcd⟩:=(HV1.out.stays HSJ.out).at hlt;cases e';obtain⟨l,hl⟩:∃l,bs.getD j []=l:=⟨_,rfl⟩
      rw[hl]at hcd x0;have HLJ:=hid hl;have HCD:=hid hcd;obtain⟨-,-,-,-,hln⟩:=hcd.shape;clear hl hcd;have hsub:IntKind.i64.wrap ((l.length:Int)-1)=(l.length:Int)-1:=by rw[IntWalk.i64_left];exact IntWalk.wrap64_in _ (by omega)
      go_wp2_with fail
      clear x0
      go_loopw[7,53] (fun _ i' wr=>∃i:Nat,i≤l.length∧i'= .int .i64 i∧wo=wr∧Hid (∀k,k<i→N1 (l.getD k default).o=decide (k+1=l.length))) (fun _ i' _=>l.length-(intOf i').toNat)
      case atStart=>exact⟨0,Nat.zero_le _,rfl,rfl,hid (fun k hk=>absurd hk (Nat.not_lt_zero _))⟩
      case round=>
       obtain⟨i,hi,rfl,rfl,HOK2⟩:=hrel;by_cases hlt2:i<l.length
       ·have hlt2':(i:Int)<(l.length:Int):=Int.ofNat_lt.2 hlt2;have hi1:IntKind.i64.wrap ((i:Int)+1)=((i+1:Nat):Int):=by rw[IntWalk.i64_left];exact IntWalk.wrap64_in _ (by omega)
        obtain⟨b2,q2,c2,e',hc2,hb2,y0,-,-,-,-,-⟩:=HCD.out.at hlt2;cases e';have CL:=hid (A6P (l.getD i default).o);obtain⟨x,hx⟩:∃x,(l.getD i default).o=x:=⟨_,rfl⟩
        rw[hx]at y0 CL;have HX:=hid hx;clear hx;cases hL:N1 x<;>(
         rw[hL]at CL;by_cases hq:i+1=l.length)
        ·have e4:((i:Int)==(l.length:Int)-1)=true:=by simp;omega
         have HQ:Hid (¬N5 (bs.getD j [])):=hid (fun h=>by rw[HLJ.out]at h;have:=h.2 i hlt2;rw[HX.out,hL,decide_eq_true hq]at this;cases this);clear hL hq;go_wp2_with(go_at_call 141;(with_reducible refine(CL.out _).mono ?_);rintro e w' ⟨rfl,rfl⟩)
         go_ret;exact⟨E9 (V7 HN.out HOKA.out hlt HQ.out).symm,A8 BB.out HSJ.out⟩
        ·have e4:((i:Int)==(l.length:Int)-1)=false:=by simp;omega
         have HQ:Hid (N1 (l.getD i default).o=decide (i+1=l.length)):=hid (by rw[HX.out,hL,decide_eq_false hq]);clear hL hq;go_wp2_with(go_at_call 141;(with_reducible refine(CL.out _).mono ?_);rintro e w' ⟨rfl,rfl⟩)
         exact A5r
        ·have e4:((i:Int)==(l.length:Int)-1)=true:=by simp;omega
         have HQ:Hid (N1 (l.getD i default).o=decide (i+1=l.length)):=hid (by rw[HX.out,hL,decide_eq_true hq]);clear hL hq;go_wp2_with(go_at_call 141;(with_reducible refine(CL.out _).mono ?_);rintro e w' ⟨rfl,rfl⟩)
         exact A5r
        ·have e4:((i:Int)==(l.length:Int)-1)=false:=by simp;omega
         have HQ:Hid (¬N5 (bs.getD j [])):=hid (fun h=>by rw[HLJ.out]at h;have:=h.2 i hlt2;rw[HX.out,hL,decide_eq_false hq]at this;cases this);clear hL hq;go_wp2_with(go_at_call 141;(with_reducible refine(CL.out _).mono ?_);rintro e w' ⟨rfl,rfl⟩)
         go_ret;exact⟨E9 (V7 HN.out HOKA.out hlt HQ.out).symm,A8 BB.out HSJ.out⟩
       ·obtain rfl:i=l.length:=by omega
        have hd2:decide ((l.length:Int)<(l.length:Int))=false:=decide_eq_false (by omega);by_cases hz:l.length=0
        ·have e0:((l.length:Int)==0)=true:=beq_iff_eq.2 (by omega);have HQ:Hid (¬N5 (bs.getD j [])):=hid (fun h=>by rw[HLJ.out]at h;exact h.1 hz);clear hz;go_wp2_with fail
         go_ret;exact⟨E9 (V7 HN.out HOKA.out hlt HQ.out).symm,A8 BB.out HSJ.out⟩
        ·have e0:((l.length:Int)==0)=false:=beq_eq_false_iff_ne.2 (by omega);have HQ:Hid (N5 (bs.getD j [])):=hid (by rw[HLJ.out];exact⟨hz,HOK2.out⟩);clear hz;go_wp2_with fail
         go_roundw
         case rel=>exact⟨j+1,by omega,by go_num,trivial,hid (fun k hk=>by rcases Nat.lt_or_ge k j with h|h;exact HRU.out k h;rw[show k=j by omega];exact HQ.out)⟩
         case measure=>simp[intOf];omega
     ·obtain rfl:j=bs.length:=by omega
      have hd:decide ((bs.length:Int)<bs.length)=false:=decide_eq_false (by omega);have HRA:Hid (R4 bs):=hid HRU.out;go_wp2_with fail
      go_ret;exact⟨E9 (A1c HN.out HOKA.out HRA.out).symm,A8 BB.out HSJ.out⟩
end Go.Proofs.YtajljbmeaeeknaaGreat
