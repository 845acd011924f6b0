/- -/
import Derived.Maps.AppendAt
import Derived.Test.YtdojafpjipcbjaaGreatK12
import Derived.Test.YtdojafpjipcbjaaGreatK13
open Go.Proofs.Tryz
open Go.Lib (hid)
set_option maxHeartbeats 1000000
set_option maxRecDepth 100000
namespace Go.Proofs.YtdojafpjipcbjaaGreat
open Go.RowKit
set_option linter.unusedVariables false
set_option linter.unusedSimpArgs false
theorem B1O{p:Prop}(h:p:=by
 refine B4 21 (by kernel_rfl) (by kernel_rfl) ?_;dsimp only[List.take,List.drop]
 repeat(quiet_step (first|(go_at_call 81;with_reducible exact B8 (HF1.out _ _))))
 refine wpQuiet_nil ?_;intro _ hw';obtain⟨k3,hw''⟩:=hw';subst hw'';go_wp2_with fail
 exact bodyPost_end (v:=.tuple #[]) (by simp[results,results77,go_sem]) rfl ⟨rfl,by first|exact HFF.out k3|simpa using HFF.out k3,hc2.trans (((Ch.refl _ _ _ _).drewN _).setM _ _)⟩
 ):p:=h
def A3R(p:Int):Bool:=decide (-2147483648≤p)&&decide (p≤2147483647)
def A3F(d s:Nat)(c:Mac):Mac:=
 {c with
  r:=c.r.set d (D8 (c.r.getD d 0)*D8 (c.r.getD s 0)%4294967296)
  f:=c.f / 2%4*2+(if A3R (D8 (c.r.getD d 0)*D8 (c.r.getD s 0))=true then 0 else 9)}
theorem A9Y{f:Int}(h0:0≤f)(h1:f≤15):bits .and .i64 f 6=f / 2%4*2:=by
 have:f=0∨f=1∨f=2∨f=3∨f=4∨f=5∨f=6∨f=7∨f=8∨f=9∨f=10∨f=11∨f=12∨f=13∨f=14∨f=15:=by omega
 rcases this with rfl|rfl|rfl|rfl|rfl|rfl|rfl|rfl|rfl|rfl|rfl|rfl|rfl|rfl|rfl|rfl<;>decide
theorem B2h{f:Int}(h0:0≤f)(h1:f≤15)(b:Bool):bits .or .i64 (f / 2%4*2) (if b=true then 9 else 0)=f / 2%4*2+(if b=true then 9 else 0):=by
 have:f / 2%4*2=0∨f / 2%4*2=2∨f / 2%4*2=4∨f / 2%4*2=6:=by omega
 rcases this with h|h|h|h<;>rw[h]<;>cases b<;>decide
theorem f8{n:Int}(h0:0≤n)(h1:n<4294967296): -2147483648≤D8 n∧D8 n≤2147483647:=by unfold D8;split<;>omega
theorem mul_bd{a b:Int}(ha: -2147483648≤a∧a≤2147483647)(hb: -2147483648≤b∧b≤2147483647): -9223372036854775808≤a*b∧a*b≤9223372036854775807:=by
 have h:(a*b).natAbs=a.natAbs*b.natAbs:=Int.natAbs_mul a b;have h2:a.natAbs*b.natAbs≤2147483648*2147483648:=Nat.mul_le_mul (by omega) (by omega);omega
section
variable {base T M : Nat} {mv : Value} {x : Ins} {z : Int} {fl : Bool} {c : Mac}
theorem y6(d s:Nat)(hd:d<32)(hs:s<32)(w:World)(h:MSt base T M mv x z fl c w)(hxd:x.d=(d:Int))(hxs:x.s=(s:Int)):Calls prog 77 #[.pointer (some ⟨T,0,none⟩)] w fun e w'=>e= .returned (.tuple #[])∧MSt base T M mv x z fl (A3F d s c) w'∧Ch T M mv w w':=by
 have x1:=h.xd;rw[hxd]at x1;have x2:=h.xs;rw[hxs]at x2;have hp:=h.ptr;have hT:=h.ltT;have hM:=h.ltM;have hTM:=h.tm;have hMT:=h.tm.symm;obtain⟨rd,fd⟩:=h.reg hd;have rs:=(h.reg hs).1;have bd:=h.rb d;have bs:=h.rb s;have hd1:(d:Int)<32:=by omega
 have hs1:(s:Int)<32:=by omega
 obtain⟨hf,hff⟩:=h.flg;have hfb:=h.fb;have hA:wrap64 (wrap32 (c.r.getD d 0))=D8 (c.r.getD d 0):=Y9 bd.1 bd.2;have hB:wrap64 (wrap32 (c.r.getD s 0))=D8 (c.r.getD s 0):=Y9 bs.1 bs.2;have hab:=f8 bd.1 bd.2;have hbb:=f8 bs.1 bs.2;have hP:=mul_bd hab hbb;have hW:wrap64 (D8 (c.r.getD d 0)*D8 (c.r.getD s 0))=D8 (c.r.getD d 0)*D8 (c.r.getD s 0):=IntWalk.wrap64_in _ hP;have H6:=hid (A9Y hfb.1 hfb.2);have H9:=hid (B2h hfb.1 hfb.2);have HS:=hid (fun n (q f:Int) (q0:0≤q) (q1:q<4294967296) (f0:0≤f) (f1:f≤15) (m:Nat)=>((((h.drewN n).setR (d:=d) hd q0 q1).drewN m).setF f0 f1));have HS2:=hid (fun n=>(h.drewN n).setR (d:=d) hd (Int.emod_nonneg (D8 (c.r.getD d 0)*D8 (c.r.getD s 0)) (by decide:(4294967296:Int)≠0)) (Int.emod_lt_of_pos _ (by decide)));have HE:Hid (A3F d s c={c with r:=c.r.set d (D8 (c.r.getD d 0)*D8 (c.r.getD s 0)%4294967296),f:=c.f / 2%4*2+(if A3R (D8 (c.r.getD d 0)*D8 (c.r.getD s 0))=true then 0 else 9)}):=rfl;rw[HE.out];have hfit:(D8 (c.r.getD d 0)*D8 (c.r.getD s 0) !=wrap64 (wrap32 (D8 (c.r.getD d 0)*D8 (c.r.getD s 0))))= !(A3R (D8 (c.r.getD d 0)*D8 (c.r.getD s 0))):=by
  have:=A1a hP;rw[hW]at this;exact this
 have HH:=hid hW;have HFI:=hid hfit;have HA:=hid hA;have HB:=hid hB;clear hW hfit hA hB hab hbb HE;generalize D8 (c.r.getD d 0)=a at*
 generalize D8 (c.r.getD s 0)=b at*
 obtain⟨P,hPe⟩:∃P,a*b=P:=⟨_,rfl⟩
 rw[hPe]at hP HH HFI HS2⊢;have HPE:=hid hPe;obtain⟨ft,hft⟩:∃q,A3R P=q:=⟨_,rfl⟩
 rw[hft]at HFI⊢;have hcd:c.r.getD d 0=c.r.getD d 0:=rfl;generalize c.r.getD s 0=rsv at*
 generalize hrd:c.r.getD d 0=rdv at*
 have HF1:=hid (fun b wk=>K5 b 9 wk);clear hPe hft hcd hrd h;go_enter func77,ntmps77;go_wp2_with fail
 go_quiet(fail)
 revert nq;intro k1;go_upto_region 1 with fail
 rw[HA.out,HB.out,HPE.out,HH.out];refine B4 14 (by kernel_rfl) (by kernel_rfl) ?_;simp only[List.take_succ_cons,List.take_zero,List.drop_succ_cons,List.drop_zero]
 repeat(quiet_step (fail))
 refine wpQuiet_nil ?_;intro _ hw';obtain⟨k2,hw''⟩:=hw';subst hw'';go_upto_region 2 with fail
 have hm2:=HS2.out (k1+k2);have hc2:Ch T M mv w ((w.drewN (k1+k2)).setCell ⟨M,d,none⟩ (.int .u32 (P%4294967296))):=((Ch.refl _ _ _ _).drewN _).setM _ _;generalize(w.drewN (k1+k2)).setCell ⟨M,d,none⟩ (.int .u32 (P%4294967296))=W2 at*
 have hp2:=hm2.ptr;have hT2:=hm2.ltT;have hM2:=hm2.ltM;obtain⟨hf2,hff2⟩:=hm2.flg;have hf2':W2.cell? ⟨M,32,none⟩=some (.int .i64 c.f):=hf2;have H62:=H6.out;have HS3:=hid hm2;clear hm2 hf2 hp hf hff rd fd rs x1 x2 hT hM;have hbt:(P !=IntKind.i64.wrap (IntKind.i32.wrap P))= !ft:=by rw[IntKind.wrap_i64,IntKind.wrap_i32];have h9:=HFI.out;unfold wrap64 wrap32 at h9;exact h9
 cases ft
 ·have h9:bits .or .i64 (c.f / 2%4*2) 9=c.f / 2%4*2+9:=H9.out true;have hbd:0≤c.f / 2%4*2+9∧c.f / 2%4*2+9≤15:=by omega
  have HFF:=hid (fun n=>(HS3.out.drewN n).setF hbd.1 hbd.2);have e0:(!false)=true:=rfl;rw[e0]at hbt;clear hfb hP hd1 hs1 hbd e0;exact B1O
 ·have h9:bits .or .i64 (c.f / 2%4*2) 0=c.f / 2%4*2+0:=H9.out false;have hbd:0≤c.f / 2%4*2+0∧c.f / 2%4*2+0≤15:=by omega
  have HFF:=hid (fun n=>(HS3.out.drewN n).setF hbd.1 hbd.2);have e0:(!true)=false:=rfl;rw[e0]at hbt;clear hfb hP hd1 hs1 hbd e0;exact B1O
end
end Go.Proofs.YtdojafpjipcbjaaGreat
namespace Go.Proofs.YtdojafpjipcbjaaGreat
open Go.RowKit Go.Maps
set_option linter.unusedVariables false
set_option linter.unusedSimpArgs false
theorem OInts.made8{w:World}{base g n:Nat}{e:TypeId}{k:IntKind}(h:w.ownsRow base e 1 (.slice (some ⟨g,0,none⟩) n n) n (madeCells #[Value.int k 0] n).toList):OInts k w g (List.replicate n 0):=by
 refine⟨(h.lt g rfl).2,fun i hi=>?_⟩;rw[List.length_replicate]at hi;refine⟨?_,h.frozenAt i⟩;rw[h.cellAt i (by omega)];rw[toList_madeCells_one,List.getElem?_replicate,if_pos hi,List.getD_eq_getElem?_getD,List.getElem?_replicate,if_pos hi];rfl
theorem A1P{w w':World}(h:w.grownBy w' none):Below w.heap.size w w':=(Below.refl _ _).grown h (Nat.le_refl _) (fun k hk=>by cases hk)
def atM(c:Mac)(s:Nat)(i:Int):Int:=(c.r.getD s 0+i)%4294967296
section
variable {base T M : Nat} {mv : Value} {x : Ins} {z : Int} {fl : Bool} {c : Mac}
theorem K8(s k:Nat)(hs:s<32)(hk:k≤4)(w:World)(h:MSt base T M mv x z fl c w)(hi:I64 x.i)(hbad:(c.m.length:Int)<atM c s x.i+k):Calls prog 74 #[.pointer (some ⟨T,0,none⟩),.int .i64 (s:Int),.int .i64 (k:Int)] w fun e w'=>∃g,e= .returned (.slice (some ⟨g,0,none⟩) k k)∧OInts .u8 w' g (List.replicate k 0)∧w.heap.size≤g∧MSt base T M mv x z true c w'∧Ch T M mv w w':=by
 obtain⟨i0,hi0,hz0,hz1,hz2⟩:=info_parts G4;have x5:=h.xi;have hp:=h.ptr;have hT:=h.ltT;have hM:=h.ltM;have hTM:=h.tm;have hMT:=h.tm.symm;obtain⟨hf7,hfz⟩:=h.ft;have rs:=(h.reg hs).1;have bs:=h.rb s;have hs1:(s:Int)<32:=by omega
 have hmem:=h.mem.1;obtain⟨va,vc,hmv,hl1,hl2⟩:=h.ints.shape;have hml:=h.ml;rw[hmv]at hmem;have HVn:=hid (fun n=>(h.drewN n).setV true);have hat0:0≤atM c s x.i∧atM c s x.i<4294967296:=⟨Int.emod_nonneg _ (by decide),Int.emod_lt_of_pos _ (by decide)⟩
 have HAT:Hid (atM c s x.i=(c.r.getD s 0+x.i)%4294967296):=rfl;obtain⟨q,hq⟩:∃q,atM c s x.i=q:=⟨_,rfl⟩
 rw[hq]at hbad hat0 HAT;clear hq hmv;generalize c.r.getD s 0=a at*
 generalize hxi:x.i=i at*
 generalize c.m.length=len at*
 clear hxi;go_enter func74,ntmps74;go_wp2_with fail
 go_quiet(fail)
 go_upto_region 2 with fail
 have hAe:(a+i%4294967296)%4294967296=q:=by rw[HAT.out];omega
 rw[hAe];have hdb:decide ((len:Int)<q+k)=true:=decide_eq_true hbad;clear hAe hi HAT;have hm3:=HVn.out nq;have hw3:((w.drewN nq).setCell ⟨T,7,none⟩ (.bool true)).heap.size=w.heap.size:=by simp[World.setCell]
 go_wp2_with(at_make;refine wpList_make_full _ rfl _ _ 24 rfl (w.heap.size) 5 i0 (.int .u8 0) 1 underlying24 hi0 hz0 hz1 .i64 .i64 _ _ k rfl rfl rfl rfl ?d1 ?d2 ?d3 ?_)
 case d1=>rw[hz2];omega
 case d2=>unfold maxLen;omega
 case d3=>exact Nat.le_of_eq hw3.symm
 intro w2 hown hgr;have hO:=OInts.made8 hown;have hb2:=A1P hgr;have HM2:=hid (hm3.same hb2);go_wp2_with fail
 go_ret;exact⟨_,rfl,hO,by omega,HM2.out,(((Ch.refl _ _ _ _).drewN nq).setT _ _).trans (Ch.of_below hb2)⟩
theorem M3(s k:Nat)(hs:s<32)(hk0:0<k)(hk:k≤4)(w:World)(h:MSt base T M mv x z fl c w)(D cap:Nat)(hmv:mv= .slice (some ⟨D,0,none⟩) c.m.length cap)(hcap:c.m.length≤cap)(hc2:cap≤9223372036854775807)(q:Nat)(hq:atM c s x.i=(q:Int))(hgood:q+k≤c.m.length):Calls prog 74 #[.pointer (some ⟨T,0,none⟩),.int .i64 (s:Int),.int .i64 (k:Int)] w fun e w'=>e= .returned (.slice (some ⟨D,q,none⟩) k (cap-q))∧Dr w w':=by
 have x5:=h.xi;have hp:=h.ptr;have hT:=h.ltT;have hM:=h.ltM;have hTM:=h.tm;have hMT:=h.tm.symm;have rs:=(h.reg hs).1;have bs:=h.rb s;have hs1:(s:Int)<32:=by omega
 have hmem:=h.mem.1;have hml:=h.ml;rw[hmv]at hmem;have HAT:Hid ((q:Int)=(c.r.getD s 0+x.i)%4294967296):=hq.symm;clear hq hmv h;generalize c.r.getD s 0=a at*
 generalize hxi:x.i=i at*
 generalize c.m.length=len at*
 clear hxi;go_enter func74,ntmps74;go_wp2_with fail
 go_quiet(fail)
 go_upto_region 2 with fail
 have hAe:(a+i%4294967296)%4294967296=(q:Int):=by rw[HAT.out];omega
 rw[hAe];have hdb:decide ((len:Int)<(q:Int)+k)=false:=decide_eq_false (by omega);have hq1:q≤q+k:=by omega
 have hq2:q+k≤cap:=by omega
 have hq3:¬cap=q:=by omega
 clear hAe HAT;go_wp2_with fail
 rw[show q+k-q=k by omega];go_ret;exact⟨rfl,_,rfl⟩
end
end Go.Proofs.YtdojafpjipcbjaaGreat
namespace Go.Proofs.YtdojafpjipcbjaaGreat
open Go.RowKit
set_option linter.unusedVariables false
set_option linter.unusedSimpArgs false
theorem q1z{p:Prop}(h:p:=by
 refine wp_region_held_drew (S:=(fun wk=>∃c',MSt base T M mv x z fl c' wk)) (by kernel_rfl) ?_ (fun hHeld=>?_)
 ·(first|exact⟨_,by assumption⟩|exact⟨_,MSt.drew (by assumption)⟩)
 refine tk 0 ?_;refine tk 1 ?_;refine tk 2 ?_;refine tk 3 ?_;refine tk 4 ?_;refine tk 5 ?_;refine tk 6 ?_;refine tk 7 ?_;refine tk 8 ?_;refine tk 9 ?_;refine rd1 10 (fun K hK=>?_)
 (go_simp;first|((with_reducible refine(CA.out _ (HS.out.drewN _)).mono ?_);rintro e w2 ⟨rfl,hm1,hc1⟩)|((with_reducible refine(CS.out _ _ hm1).mono ?_);rintro e w3 ⟨rfl,hm2,hc2⟩))
 refine hK.out _ _ ?_ (fun hHeld=>?_)
 ·(first|exact⟨_,by assumption⟩|exact⟨_,MSt.drew (by assumption)⟩)
 clear hK K
 try go_frame
 refine rd1 11 (fun K hK=>?_)
 (go_simp;first|((with_reducible refine(CA.out _ (HS.out.drewN _)).mono ?_);rintro e w2 ⟨rfl,hm1,hc1⟩)|((with_reducible refine(CS.out _ _ hm1).mono ?_);rintro e w3 ⟨rfl,hm2,hc2⟩))
 refine hK.out _ _ ?_ (fun hHeld=>?_)
 ·(first|exact⟨_,by assumption⟩|exact⟨_,MSt.drew (by assumption)⟩)
 clear hK K
 try go_frame
 refine wpAnyH_done (by kernel_rfl) ?_ _;go_wp2_with fail
 exact bodyPost_end (v:=.tuple #[]) (by simp[results,results76,go_sem]) rfl ⟨rfl,hm2,(((Ch.refl _ _ _ _).drewN (n1+1)).trans hc1).trans hc2⟩
 ):p:=h
theorem B1e{p:Prop}(h:p:=by
 go_enter func76,ntmps76;go_upto_region 4 with((with_reducible refine(CG.out).mono ?_);rintro e w1 ⟨rfl,n1,rfl⟩;have hm0:=HS.out.drewN n1)
 refine wp_region_held_drew (S:=(fun wk=>∃c',MSt base T M mv x z fl c' wk)) (by kernel_rfl) ?_ (fun hHeld=>?_)
 ·(first|exact⟨_,by assumption⟩|exact⟨_,MSt.drew (by assumption)⟩)
 refine tk 0 ?_;refine tk 1 ?_;refine tk 2 ?_;refine tk 3 ?_;refine tk 4 ?_;refine tk 5 ?_;refine tk 6 ?_;refine tk 7 ?_;refine tk 8 ?_;refine rd1 9 (fun K hK=>?_)
 (go_simp;first|((with_reducible refine(CA.out _ (HS.out.drewN _)).mono ?_);rintro e w2 ⟨rfl,hm1,hc1⟩)|((with_reducible refine(CS.out _ _ hm1).mono ?_);rintro e w3 ⟨rfl,hm2,hc2⟩))
 refine hK.out _ _ ?_ (fun hHeld=>?_)
 ·(first|exact⟨_,by assumption⟩|exact⟨_,MSt.drew (by assumption)⟩)
 clear hK K
 try go_frame
 refine rd1 10 (fun K hK=>?_)
 (go_simp;first|((with_reducible refine(CA.out _ (HS.out.drewN _)).mono ?_);rintro e w2 ⟨rfl,hm1,hc1⟩)|((with_reducible refine(CS.out _ _ hm1).mono ?_);rintro e w3 ⟨rfl,hm2,hc2⟩))
 refine hK.out _ _ ?_ (fun hHeld=>?_)
 ·(first|exact⟨_,by assumption⟩|exact⟨_,MSt.drew (by assumption)⟩)
 clear hK K
 try go_frame
 refine wpAnyH_done (by kernel_rfl) ?_ _;go_wp2_with fail
 exact bodyPost_end (v:=.tuple #[]) (by simp[results,results76,go_sem]) rfl ⟨rfl,hm2,(((Ch.refl _ _ _ _).drewN (n1+1)).trans hc1).trans hc2⟩
 ):p:=h
theorem B1d{p:Prop}(h:p:=by
 go_enter func76,ntmps76;go_upto_region 7 with((with_reducible refine(CG.out).mono ?_);rintro e w1 ⟨rfl,n1,rfl⟩;have hm0:=HS.out.drewN n1)
 refine wp_region_held_drew (S:=(fun wk=>∃c',MSt base T M mv x z fl c' wk)) (by kernel_rfl) ?_ (fun hHeld=>?_)
 ·(first|exact⟨_,by assumption⟩|exact⟨_,MSt.drew (by assumption)⟩)
 refine tk 0 ?_;refine tk 1 ?_;refine tk 2 ?_;refine tk 3 ?_;refine tk 4 ?_;refine tk 5 ?_;refine tk 6 ?_;refine tk 7 ?_;refine tk 8 ?_;refine rd1 9 (fun K hK=>?_)
 (go_simp;first|((with_reducible refine(CA.out _ (HS.out.drewN _)).mono ?_);rintro e w2 ⟨rfl,hm1,hc1⟩)|((with_reducible refine(CS.out _ _ hm1).mono ?_);rintro e w3 ⟨rfl,hm2,hc2⟩))
 refine hK.out _ _ ?_ (fun hHeld=>?_)
 ·(first|exact⟨_,by assumption⟩|exact⟨_,MSt.drew (by assumption)⟩)
 clear hK K
 try go_frame
 refine rd1 10 (fun K hK=>?_)
 (go_simp;first|((with_reducible refine(CA.out _ (HS.out.drewN _)).mono ?_);rintro e w2 ⟨rfl,hm1,hc1⟩)|((with_reducible refine(CS.out _ _ hm1).mono ?_);rintro e w3 ⟨rfl,hm2,hc2⟩))
 refine hK.out _ _ ?_ (fun hHeld=>?_)
 ·(first|exact⟨_,by assumption⟩|exact⟨_,MSt.drew (by assumption)⟩)
 clear hK K
 try go_frame
 refine wpAnyH_done (by kernel_rfl) ?_ _;go_wp2_with fail
 exact bodyPost_end (v:=.tuple #[]) (by simp[results,results76,go_sem]) rfl ⟨rfl,hm2,(((Ch.refl _ _ _ _).drewN (n1+1)).trans hc1).trans hc2⟩
 ):p:=h
theorem B1I{p:Prop}(h:p:=by
 go_enter func76,ntmps76;go_wp2_with(first|((with_reducible refine(CG.out).mono ?_);rintro e w1 ⟨rfl,n1,rfl⟩;have hm0:=HS.out.drewN n1)|((with_reducible refine(CA.out _ (HS.out.drewN _)).mono ?_);rintro e w2 ⟨rfl,hm1,hc1⟩))
 exact bodyPost_end (v:=.tuple #[]) (by simp[results,results76,go_sem]) rfl ⟨rfl,hm1,((Ch.refl _ _ _ _).drewN n1).trans hc1⟩
 ):p:=h
def orW(a b:Int):Int:=((a.toNat|||b.toNat:Nat):Int)
def anW(a b:Int):Int:=((a.toNat&&&b.toNat:Nat):Int)
def xoW(a b:Int):Int:=((a.toNat^^^b.toNat:Nat):Int)
theorem y5{a b:Int}(a0:0≤a)(a1:a<4294967296)(b0:0≤b)(b1:b<4294967296):0≤orW a b∧orW a b<4294967296:=by
 have:=Nat.or_lt_two_pow (x:=a.toNat) (y:=b.toNat) (n:=32) (by omega) (by omega);unfold orW;omega
theorem l9{a b:Int}(a0:0≤a)(a1:a<4294967296)(b0:0≤b)(b1:b<4294967296):0≤anW a b∧anW a b<4294967296:=by
 have:=Nat.and_lt_two_pow (x:=a.toNat) (y:=b.toNat) (n:=32) (by omega);unfold anW;omega
theorem t8{a b:Int}(a0:0≤a)(a1:a<4294967296)(b0:0≤b)(b1:b<4294967296):0≤xoW a b∧xoW a b<4294967296:=by
 have:=Nat.xor_lt_two_pow (x:=a.toNat) (y:=b.toNat) (n:=32) (by omega) (by omega);unfold xoW;omega
section
variable {base T M : Nat} {mv : Value} {x : Ins} {z : Int} {fl : Bool} {c : Mac}
theorem B0A(d:Nat)(hd:d<32)(a b:Int)(w:World)(h:MSt base T M mv x z fl c w)(hxd:x.d=(d:Int))(ha:c.r.getD d 0%pwZ z=a)(b0:0≤b)(b1:b<4294967296):Calls prog 76 #[.pointer (some ⟨T,0,none⟩),.int .i64 7,.int .u32 b] w fun e w'=>e= .returned (.tuple #[])∧MSt base T M mv x z fl {c with r:=c.r.set d (wrR (c.r.getD d 0) (adN a b z) z),f:=rsF (adN a b z) z (adO a b z)} w'∧Ch T M mv w w':=by
 have hpw:=D6 h.zz;have a0:0≤a:=by rw[←ha];exact Int.emod_nonneg _ (by omega)
 have a1:a<4294967296:=by rw[←ha];have:=Int.emod_lt_of_pos (c.r.getD d 0) hpw.1;omega
 have x1:=h.xd;rw[hxd]at x1;have hT:=h.ltT;have CG:=hid (F8 d hd w h);rw[ha]at CG;have HS:=hid h;have hnb:=A2I (a:=a) (b:=b) h.zz;have CA:=hid (fun wk (hk:MSt base T M mv x z fl c wk)=>A2n a b wk hk a0 a1 b0 b1);have hn2:adN a b z<4294967296:=by omega
 have CS:=hid (fun(c':Mac) wk (hk:MSt base T M mv x z fl c' wk)=>G1 d hd (adN a b z) wk hk hnb.1 hn2);have xds:∀wk,(∃c',MSt base T M mv x z fl c' wk)→wk.cell? ⟨T,2,none⟩=some (.int .i64 (d:Int)):=fun wk ⟨c',h'⟩=>by have:=h'.xd;rw[hxd]at this;exact this
 have lts:∀wk,(∃c',MSt base T M mv x z fl c' wk)→T<wk.heap.size:=fun wk ⟨c',h'⟩=>h'.ltT
 generalize adN a b z=n at*
 generalize adO a b z=o at*
 clear h hpw hnb hn2 ha a0 a1 hxd;exact B1e
theorem A9z(d:Nat)(hd:d<32)(a b:Int)(w:World)(h:MSt base T M mv x z fl c w)(hxd:x.d=(d:Int))(ha:c.r.getD d 0%pwZ z=a)(b0:0≤b)(b1:b<4294967296):Calls prog 76 #[.pointer (some ⟨T,0,none⟩),.int .i64 8,.int .u32 b] w fun e w'=>e= .returned (.tuple #[])∧MSt base T M mv x z fl {c with r:=c.r.set d (wrR (c.r.getD d 0) (orW a b) z),f:=rsF (orW a b) z 0} w'∧Ch T M mv w w':=by
 have hpw:=D6 h.zz;have a0:0≤a:=by rw[←ha];exact Int.emod_nonneg _ (by omega)
 have a1:a<4294967296:=by rw[←ha];have:=Int.emod_lt_of_pos (c.r.getD d 0) hpw.1;omega
 have x1:=h.xd;rw[hxd]at x1;have hT:=h.ltT;have CG:=hid (F8 d hd w h);rw[ha]at CG;have HS:=hid h;have hnb:=y5 a0 a1 b0 b1;have hbit:bits .or .u32 a b=orW a b:=u32_or a b a0 a1 b0 b1;have CA:=hid (fun wk (hk:MSt base T M mv x z fl c wk)=>M4 (orW a b) wk hk hnb.1 hnb.2);have hn2:orW a b<4294967296:=by omega
 have CS:=hid (fun(c':Mac) wk (hk:MSt base T M mv x z fl c' wk)=>G1 d hd (orW a b) wk hk hnb.1 hn2);have xds:∀wk,(∃c',MSt base T M mv x z fl c' wk)→wk.cell? ⟨T,2,none⟩=some (.int .i64 (d:Int)):=fun wk ⟨c',h'⟩=>by have:=h'.xd;rw[hxd]at this;exact this
 have lts:∀wk,(∃c',MSt base T M mv x z fl c' wk)→T<wk.heap.size:=fun wk ⟨c',h'⟩=>h'.ltT
 generalize orW a b=n at*
 clear h hpw hnb hn2 ha a0 a1 hxd;go_enter func76,ntmps76;go_upto_region 13 with((with_reducible refine(CG.out).mono ?_);rintro e w1 ⟨rfl,n1,rfl⟩;have hm0:=HS.out.drewN n1)
 exact q1z
theorem A9y(d:Nat)(hd:d<32)(a b:Int)(w:World)(h:MSt base T M mv x z fl c w)(hxd:x.d=(d:Int))(ha:c.r.getD d 0%pwZ z=a)(b0:0≤b)(b1:b<4294967296):Calls prog 76 #[.pointer (some ⟨T,0,none⟩),.int .i64 9,.int .u32 b] w fun e w'=>e= .returned (.tuple #[])∧MSt base T M mv x z fl {c with r:=c.r.set d (wrR (c.r.getD d 0) (anW a b) z),f:=rsF (anW a b) z 0} w'∧Ch T M mv w w':=by
 have hpw:=D6 h.zz;have a0:0≤a:=by rw[←ha];exact Int.emod_nonneg _ (by omega)
 have a1:a<4294967296:=by rw[←ha];have:=Int.emod_lt_of_pos (c.r.getD d 0) hpw.1;omega
 have x1:=h.xd;rw[hxd]at x1;have hT:=h.ltT;have CG:=hid (F8 d hd w h);rw[ha]at CG;have HS:=hid h;have hnb:=l9 a0 a1 b0 b1;have hbit:bits .and .u32 a b=anW a b:=u32_and a b a0 a1 b0 b1;have CA:=hid (fun wk (hk:MSt base T M mv x z fl c wk)=>M4 (anW a b) wk hk hnb.1 hnb.2);have hn2:anW a b<4294967296:=by omega
 have CS:=hid (fun(c':Mac) wk (hk:MSt base T M mv x z fl c' wk)=>G1 d hd (anW a b) wk hk hnb.1 hn2);have xds:∀wk,(∃c',MSt base T M mv x z fl c' wk)→wk.cell? ⟨T,2,none⟩=some (.int .i64 (d:Int)):=fun wk ⟨c',h'⟩=>by have:=h'.xd;rw[hxd]at this;exact this
 have lts:∀wk,(∃c',MSt base T M mv x z fl c' wk)→T<wk.heap.size:=fun wk ⟨c',h'⟩=>h'.ltT
 generalize anW a b=n at*
 clear h hpw hnb hn2 ha a0 a1 hxd;go_enter func76,ntmps76;go_upto_region 16 with((with_reducible refine(CG.out).mono ?_);rintro e w1 ⟨rfl,n1,rfl⟩;have hm0:=HS.out.drewN n1)
 exact q1z
theorem A7q(d:Nat)(hd:d<32)(a b:Int)(w:World)(h:MSt base T M mv x z fl c w)(hxd:x.d=(d:Int))(ha:c.r.getD d 0%pwZ z=a)(b0:0≤b)(b1:b<4294967296):Calls prog 76 #[.pointer (some ⟨T,0,none⟩),.int .i64 10,.int .u32 b] w fun e w'=>e= .returned (.tuple #[])∧MSt base T M mv x z fl {c with r:=c.r.set d (wrR (c.r.getD d 0) (suN a b z) z),f:=rsF (suN a b z) z (suO a b z)} w'∧Ch T M mv w w':=by
 have hpw:=D6 h.zz;have a0:0≤a:=by rw[←ha];exact Int.emod_nonneg _ (by omega)
 have a1:a<4294967296:=by rw[←ha];have:=Int.emod_lt_of_pos (c.r.getD d 0) hpw.1;omega
 have x1:=h.xd;rw[hxd]at x1;have hT:=h.ltT;have CG:=hid (F8 d hd w h);rw[ha]at CG;have HS:=hid h;have hnb:=Z2 (a:=a) (b:=b) h.zz;have CA:=hid (fun wk (hk:MSt base T M mv x z fl c wk)=>X0 a b wk hk a0 a1 b0 b1);have hn2:suN a b z<4294967296:=by omega
 have CS:=hid (fun(c':Mac) wk (hk:MSt base T M mv x z fl c' wk)=>G1 d hd (suN a b z) wk hk hnb.1 hn2);have xds:∀wk,(∃c',MSt base T M mv x z fl c' wk)→wk.cell? ⟨T,2,none⟩=some (.int .i64 (d:Int)):=fun wk ⟨c',h'⟩=>by have:=h'.xd;rw[hxd]at this;exact this
 have lts:∀wk,(∃c',MSt base T M mv x z fl c' wk)→T<wk.heap.size:=fun wk ⟨c',h'⟩=>h'.ltT
 generalize suN a b z=n at*
 generalize suO a b z=o at*
 clear h hpw hnb hn2 ha a0 a1 hxd;exact B1d
theorem A7p(d:Nat)(hd:d<32)(a b:Int)(w:World)(h:MSt base T M mv x z fl c w)(hxd:x.d=(d:Int))(ha:c.r.getD d 0%pwZ z=a)(b0:0≤b)(b1:b<4294967296):Calls prog 76 #[.pointer (some ⟨T,0,none⟩),.int .i64 11,.int .u32 b] w fun e w'=>e= .returned (.tuple #[])∧MSt base T M mv x z fl {c with r:=c.r.set d (wrR (c.r.getD d 0) (xoW a b) z),f:=rsF (xoW a b) z 0} w'∧Ch T M mv w w':=by
 have hpw:=D6 h.zz;have a0:0≤a:=by rw[←ha];exact Int.emod_nonneg _ (by omega)
 have a1:a<4294967296:=by rw[←ha];have:=Int.emod_lt_of_pos (c.r.getD d 0) hpw.1;omega
 have x1:=h.xd;rw[hxd]at x1;have hT:=h.ltT;have CG:=hid (F8 d hd w h);rw[ha]at CG;have HS:=hid h;have hnb:=t8 a0 a1 b0 b1;have hbit:bits .xor .u32 a b=xoW a b:=u32_xor a b a0 a1 b0 b1;have CA:=hid (fun wk (hk:MSt base T M mv x z fl c wk)=>M4 (xoW a b) wk hk hnb.1 hnb.2);have hn2:xoW a b<4294967296:=by omega
 have CS:=hid (fun(c':Mac) wk (hk:MSt base T M mv x z fl c' wk)=>G1 d hd (xoW a b) wk hk hnb.1 hn2);have xds:∀wk,(∃c',MSt base T M mv x z fl c' wk)→wk.cell? ⟨T,2,none⟩=some (.int .i64 (d:Int)):=fun wk ⟨c',h'⟩=>by have:=h'.xd;rw[hxd]at this;exact this
 have lts:∀wk,(∃c',MSt base T M mv x z fl c' wk)→T<wk.heap.size:=fun wk ⟨c',h'⟩=>h'.ltT
 generalize xoW a b=n at*
 clear h hpw hnb hn2 ha a0 a1 hxd;go_enter func76,ntmps76;go_upto_region 19 with((with_reducible refine(CG.out).mono ?_);rintro e w1 ⟨rfl,n1,rfl⟩;have hm0:=HS.out.drewN n1)
 exact q1z
theorem A7o(d:Nat)(hd:d<32)(a b:Int)(w:World)(h:MSt base T M mv x z fl c w)(hxd:x.d=(d:Int))(ha:c.r.getD d 0%pwZ z=a)(b0:0≤b)(b1:b<4294967296):Calls prog 76 #[.pointer (some ⟨T,0,none⟩),.int .i64 12,.int .u32 b] w fun e w'=>e= .returned (.tuple #[])∧MSt base T M mv x z fl {c with f:=rsF (suN a b z) z (suO a b z)} w'∧Ch T M mv w w':=by
 have hpw:=D6 h.zz;have a0:0≤a:=by rw[←ha];exact Int.emod_nonneg _ (by omega)
 have a1:a<4294967296:=by rw[←ha];have:=Int.emod_lt_of_pos (c.r.getD d 0) hpw.1;omega
 have x1:=h.xd;rw[hxd]at x1;have hT:=h.ltT;have CG:=hid (F8 d hd w h);rw[ha]at CG;have HS:=hid h;have hnb:=Z2 (a:=a) (b:=b) h.zz;have CA:=hid (fun wk (hk:MSt base T M mv x z fl c wk)=>X0 a b wk hk a0 a1 b0 b1);have hn2:suN a b z<4294967296:=by omega
 generalize suN a b z=n at*
 generalize suO a b z=o at*
 clear h hpw hnb hn2 ha a0 a1 hxd;exact B1I
theorem A7n(d:Nat)(hd:d<32)(a b:Int)(w:World)(h:MSt base T M mv x z fl c w)(hxd:x.d=(d:Int))(ha:c.r.getD d 0%pwZ z=a)(b0:0≤b)(b1:b<4294967296):Calls prog 76 #[.pointer (some ⟨T,0,none⟩),.int .i64 13,.int .u32 b] w fun e w'=>e= .returned (.tuple #[])∧MSt base T M mv x z fl {c with f:=rsF (anW a b) z 0} w'∧Ch T M mv w w':=by
 have hpw:=D6 h.zz;have a0:0≤a:=by rw[←ha];exact Int.emod_nonneg _ (by omega)
 have a1:a<4294967296:=by rw[←ha];have:=Int.emod_lt_of_pos (c.r.getD d 0) hpw.1;omega
 have x1:=h.xd;rw[hxd]at x1;have hT:=h.ltT;have CG:=hid (F8 d hd w h);rw[ha]at CG;have HS:=hid h;have hnb:=l9 a0 a1 b0 b1;have hbit:bits .and .u32 a b=anW a b:=u32_and a b a0 a1 b0 b1;have CA:=hid (fun wk (hk:MSt base T M mv x z fl c wk)=>M4 (anW a b) wk hk hnb.1 hnb.2);have hn2:anW a b<4294967296:=by omega
 generalize anW a b=n at*
 clear h hpw hnb hn2 ha a0 a1 hxd;go_enter func76,ntmps76;go_wp2_with(first|((with_reducible refine(CG.out).mono ?_);rintro e w1 ⟨rfl,n1,rfl⟩;have hm0:=HS.out.drewN n1)|((with_reducible refine(CA.out _ (HS.out.drewN _)).mono ?_);rintro e w2 ⟨rfl,hm1,hc1⟩))
 exact bodyPost_end (v:=.tuple #[]) (by simp[results,results76,go_sem]) rfl ⟨rfl,hm1,((Ch.refl _ _ _ _).drewN n1).trans hc1⟩
theorem A7m(d:Nat)(hd:d<32)(a b:Int)(w:World)(h:MSt base T M mv x z fl c w)(hxd:x.d=(d:Int))(ha:c.r.getD d 0%pwZ z=a)(b0:0≤b)(b1:b<4294967296):Calls prog 76 #[.pointer (some ⟨T,0,none⟩),.int .i64 14,.int .u32 b] w fun e w'=>e= .returned (.tuple #[])∧MSt base T M mv x z fl {c with r:=c.r.set d (wrR (c.r.getD d 0) (adN a b z) z),f:=rsF (adN a b z) z (adO a b z)} w'∧Ch T M mv w w':=by
 have hpw:=D6 h.zz;have a0:0≤a:=by rw[←ha];exact Int.emod_nonneg _ (by omega)
 have a1:a<4294967296:=by rw[←ha];have:=Int.emod_lt_of_pos (c.r.getD d 0) hpw.1;omega
 have x1:=h.xd;rw[hxd]at x1;have hT:=h.ltT;have CG:=hid (F8 d hd w h);rw[ha]at CG;have HS:=hid h;have hnb:=A2I (a:=a) (b:=b) h.zz;have CA:=hid (fun wk (hk:MSt base T M mv x z fl c wk)=>A2n a b wk hk a0 a1 b0 b1);have hn2:adN a b z<4294967296:=by omega
 have CS:=hid (fun(c':Mac) wk (hk:MSt base T M mv x z fl c' wk)=>G1 d hd (adN a b z) wk hk hnb.1 hn2);have xds:∀wk,(∃c',MSt base T M mv x z fl c' wk)→wk.cell? ⟨T,2,none⟩=some (.int .i64 (d:Int)):=fun wk ⟨c',h'⟩=>by have:=h'.xd;rw[hxd]at this;exact this
 have lts:∀wk,(∃c',MSt base T M mv x z fl c' wk)→T<wk.heap.size:=fun wk ⟨c',h'⟩=>h'.ltT
 generalize adN a b z=n at*
 generalize adO a b z=o at*
 clear h hpw hnb hn2 ha a0 a1 hxd;exact B1e
theorem A7l(d:Nat)(hd:d<32)(a b:Int)(w:World)(h:MSt base T M mv x z fl c w)(hxd:x.d=(d:Int))(ha:c.r.getD d 0%pwZ z=a)(b0:0≤b)(b1:b<4294967296):Calls prog 76 #[.pointer (some ⟨T,0,none⟩),.int .i64 15,.int .u32 b] w fun e w'=>e= .returned (.tuple #[])∧MSt base T M mv x z fl {c with r:=c.r.set d (wrR (c.r.getD d 0) (orW a b) z),f:=rsF (orW a b) z 0} w'∧Ch T M mv w w':=by
 have hpw:=D6 h.zz;have a0:0≤a:=by rw[←ha];exact Int.emod_nonneg _ (by omega)
 have a1:a<4294967296:=by rw[←ha];have:=Int.emod_lt_of_pos (c.r.getD d 0) hpw.1;omega
 have x1:=h.xd;rw[hxd]at x1;have hT:=h.ltT;have CG:=hid (F8 d hd w h);rw[ha]at CG;have HS:=hid h;have hnb:=y5 a0 a1 b0 b1;have hbit:bits .or .u32 a b=orW a b:=u32_or a b a0 a1 b0 b1;have CA:=hid (fun wk (hk:MSt base T M mv x z fl c wk)=>M4 (orW a b) wk hk hnb.1 hnb.2);have hn2:orW a b<4294967296:=by omega
 have CS:=hid (fun(c':Mac) wk (hk:MSt base T M mv x z fl c' wk)=>G1 d hd (orW a b) wk hk hnb.1 hn2);have xds:∀wk,(∃c',MSt base T M mv x z fl c' wk)→wk.cell? ⟨T,2,none⟩=some (.int .i64 (d:Int)):=fun wk ⟨c',h'⟩=>by have:=h'.xd;rw[hxd]at this;exact this
 have lts:∀wk,(∃c',MSt base T M mv x z fl c' wk)→T<wk.heap.size:=fun wk ⟨c',h'⟩=>h'.ltT
 generalize orW a b=n at*
 clear h hpw hnb hn2 ha a0 a1 hxd;go_enter func76,ntmps76;go_upto_region 13 with((with_reducible refine(CG.out).mono ?_);rintro e w1 ⟨rfl,n1,rfl⟩;have hm0:=HS.out.drewN n1)
 exact q1z
theorem A7k(d:Nat)(hd:d<32)(a b:Int)(w:World)(h:MSt base T M mv x z fl c w)(hxd:x.d=(d:Int))(ha:c.r.getD d 0%pwZ z=a)(b0:0≤b)(b1:b<4294967296):Calls prog 76 #[.pointer (some ⟨T,0,none⟩),.int .i64 16,.int .u32 b] w fun e w'=>e= .returned (.tuple #[])∧MSt base T M mv x z fl {c with r:=c.r.set d (wrR (c.r.getD d 0) (anW a b) z),f:=rsF (anW a b) z 0} w'∧Ch T M mv w w':=by
 have hpw:=D6 h.zz;have a0:0≤a:=by rw[←ha];exact Int.emod_nonneg _ (by omega)
 have a1:a<4294967296:=by rw[←ha];have:=Int.emod_lt_of_pos (c.r.getD d 0) hpw.1;omega
 have x1:=h.xd;rw[hxd]at x1;have hT:=h.ltT;have CG:=hid (F8 d hd w h);rw[ha]at CG;have HS:=hid h;have hnb:=l9 a0 a1 b0 b1;have hbit:bits .and .u32 a b=anW a b:=u32_and a b a0 a1 b0 b1;have CA:=hid (fun wk (hk:MSt base T M mv x z fl c wk)=>M4 (anW a b) wk hk hnb.1 hnb.2);have hn2:anW a b<4294967296:=by omega
 have CS:=hid (fun(c':Mac) wk (hk:MSt base T M mv x z fl c' wk)=>G1 d hd (anW a b) wk hk hnb.1 hn2);have xds:∀wk,(∃c',MSt base T M mv x z fl c' wk)→wk.cell? ⟨T,2,none⟩=some (.int .i64 (d:Int)):=fun wk ⟨c',h'⟩=>by have:=h'.xd;rw[hxd]at this;exact this
 have lts:∀wk,(∃c',MSt base T M mv x z fl c' wk)→T<wk.heap.size:=fun wk ⟨c',h'⟩=>h'.ltT
 generalize anW a b=n at*
 clear h hpw hnb hn2 ha a0 a1 hxd;go_enter func76,ntmps76;go_upto_region 16 with((with_reducible refine(CG.out).mono ?_);rintro e w1 ⟨rfl,n1,rfl⟩;have hm0:=HS.out.drewN n1)
 exact q1z
theorem A7j(d:Nat)(hd:d<32)(a b:Int)(w:World)(h:MSt base T M mv x z fl c w)(hxd:x.d=(d:Int))(ha:c.r.getD d 0%pwZ z=a)(b0:0≤b)(b1:b<4294967296):Calls prog 76 #[.pointer (some ⟨T,0,none⟩),.int .i64 17,.int .u32 b] w fun e w'=>e= .returned (.tuple #[])∧MSt base T M mv x z fl {c with r:=c.r.set d (wrR (c.r.getD d 0) (suN a b z) z),f:=rsF (suN a b z) z (suO a b z)} w'∧Ch T M mv w w':=by
 have hpw:=D6 h.zz;have a0:0≤a:=by rw[←ha];exact Int.emod_nonneg _ (by omega)
 have a1:a<4294967296:=by rw[←ha];have:=Int.emod_lt_of_pos (c.r.getD d 0) hpw.1;omega
 have x1:=h.xd;rw[hxd]at x1;have hT:=h.ltT;have CG:=hid (F8 d hd w h);rw[ha]at CG;have HS:=hid h;have hnb:=Z2 (a:=a) (b:=b) h.zz;have CA:=hid (fun wk (hk:MSt base T M mv x z fl c wk)=>X0 a b wk hk a0 a1 b0 b1);have hn2:suN a b z<4294967296:=by omega
 have CS:=hid (fun(c':Mac) wk (hk:MSt base T M mv x z fl c' wk)=>G1 d hd (suN a b z) wk hk hnb.1 hn2);have xds:∀wk,(∃c',MSt base T M mv x z fl c' wk)→wk.cell? ⟨T,2,none⟩=some (.int .i64 (d:Int)):=fun wk ⟨c',h'⟩=>by have:=h'.xd;rw[hxd]at this;exact this
 have lts:∀wk,(∃c',MSt base T M mv x z fl c' wk)→T<wk.heap.size:=fun wk ⟨c',h'⟩=>h'.ltT
 generalize suN a b z=n at*
 generalize suO a b z=o at*
 clear h hpw hnb hn2 ha a0 a1 hxd;exact B1d
theorem A7i(d:Nat)(hd:d<32)(a b:Int)(w:World)(h:MSt base T M mv x z fl c w)(hxd:x.d=(d:Int))(ha:c.r.getD d 0%pwZ z=a)(b0:0≤b)(b1:b<4294967296):Calls prog 76 #[.pointer (some ⟨T,0,none⟩),.int .i64 18,.int .u32 b] w fun e w'=>e= .returned (.tuple #[])∧MSt base T M mv x z fl {c with r:=c.r.set d (wrR (c.r.getD d 0) (xoW a b) z),f:=rsF (xoW a b) z 0} w'∧Ch T M mv w w':=by
 have hpw:=D6 h.zz;have a0:0≤a:=by rw[←ha];exact Int.emod_nonneg _ (by omega)
 have a1:a<4294967296:=by rw[←ha];have:=Int.emod_lt_of_pos (c.r.getD d 0) hpw.1;omega
 have x1:=h.xd;rw[hxd]at x1;have hT:=h.ltT;have CG:=hid (F8 d hd w h);rw[ha]at CG;have HS:=hid h;have hnb:=t8 a0 a1 b0 b1;have hbit:bits .xor .u32 a b=xoW a b:=u32_xor a b a0 a1 b0 b1;have CA:=hid (fun wk (hk:MSt base T M mv x z fl c wk)=>M4 (xoW a b) wk hk hnb.1 hnb.2);have hn2:xoW a b<4294967296:=by omega
 have CS:=hid (fun(c':Mac) wk (hk:MSt base T M mv x z fl c' wk)=>G1 d hd (xoW a b) wk hk hnb.1 hn2);have xds:∀wk,(∃c',MSt base T M mv x z fl c' wk)→wk.cell? ⟨T,2,none⟩=some (.int .i64 (d:Int)):=fun wk ⟨c',h'⟩=>by have:=h'.xd;rw[hxd]at this;exact this
 have lts:∀wk,(∃c',MSt base T M mv x z fl c' wk)→T<wk.heap.size:=fun wk ⟨c',h'⟩=>h'.ltT
 generalize xoW a b=n at*
 clear h hpw hnb hn2 ha a0 a1 hxd;go_enter func76,ntmps76;go_upto_region 19 with((with_reducible refine(CG.out).mono ?_);rintro e w1 ⟨rfl,n1,rfl⟩;have hm0:=HS.out.drewN n1)
 exact q1z
theorem A7h(d:Nat)(hd:d<32)(a b:Int)(w:World)(h:MSt base T M mv x z fl c w)(hxd:x.d=(d:Int))(ha:c.r.getD d 0%pwZ z=a)(b0:0≤b)(b1:b<4294967296):Calls prog 76 #[.pointer (some ⟨T,0,none⟩),.int .i64 19,.int .u32 b] w fun e w'=>e= .returned (.tuple #[])∧MSt base T M mv x z fl {c with f:=rsF (suN a b z) z (suO a b z)} w'∧Ch T M mv w w':=by
 have hpw:=D6 h.zz;have a0:0≤a:=by rw[←ha];exact Int.emod_nonneg _ (by omega)
 have a1:a<4294967296:=by rw[←ha];have:=Int.emod_lt_of_pos (c.r.getD d 0) hpw.1;omega
 have x1:=h.xd;rw[hxd]at x1;have hT:=h.ltT;have CG:=hid (F8 d hd w h);rw[ha]at CG;have HS:=hid h;have hnb:=Z2 (a:=a) (b:=b) h.zz;have CA:=hid (fun wk (hk:MSt base T M mv x z fl c wk)=>X0 a b wk hk a0 a1 b0 b1);have hn2:suN a b z<4294967296:=by omega
 generalize suN a b z=n at*
 generalize suO a b z=o at*
 clear h hpw hnb hn2 ha a0 a1 hxd;exact B1I
end
end Go.Proofs.YtdojafpjipcbjaaGreat
