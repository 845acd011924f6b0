/- -/
import Derived.BigQuiet
import Derived.Deep.RegionHeld3
import Derived.Test.YtajljbmeaeeknaaGreatS23
open Go.Proofs.Tryz
open Go.Lib (hid)
namespace Go.Proofs.YtajljbmeaeeknaaGreat
open Go.RowKit Go.Maps
set_option linter.unusedVariables false
set_option linter.unusedSimpArgs false
set_option maxRecDepth 100000 in
set_option maxHeartbeats 4000000 in
theorem A1X(set regs:Int)(bs:List (List Cd))(v:Value)(w:World)(hv:Bls w v bs)(h0:toC bs≤500)(h1:bs.length≤500)(hi:A0M bs):Calls prog 9 #[.int .i64 set,.agg #[.int .i64 regs,v]] w fun e w'=>((F3 set regs bs≠0∧e= .returned (.tuple #[.agg #[.slice none 0 0,.slice none 0 0,.slice none 0 0],.int .i64 (F3 set regs bs)]))∨(F3 set regs bs=0∧∃lo,Relx set bs.flatten (blS bs) lo∧((8192<D4 set bs.flatten lo bs.flatten.length∧e= .returned (.tuple #[.agg #[.slice none 0 0,.slice none 0 0,.slice none 0 0],.int .i64 3]))∨(D4 set bs.flatten lo bs.flatten.length≤8192∧∃D S1,e= .returned (.tuple #[.agg #[.slice (some ⟨D,0,none⟩) (D4 set bs.flatten lo bs.flatten.length) (D4 set bs.flatten lo bs.flatten.length),.slice (some ⟨S1,0,none⟩) 1 1,.slice none 0 0],.int .i64 0])∧OInts .u8 w' D (emB set bs.flatten (blS bs) lo bs.flatten.length)∧Cls w' S1 [.int .i64 0,.int .i64 0]))))∧Below w.heap.size w w':=by
 have HV:=hid hv;obtain⟨va,vc,rfl,hl1,hl2⟩:=hv.shape;obtain⟨W1,hW1⟩:∃W,(w.alloc (.cells #[.int .i64 regs,.slice va bs.length vc] 24)).alloc (.cells #[.slice none 0 0,.slice none 0 0,.slice none 0 0] 32)=W:=⟨_,rfl⟩
 have BB:Hid (Below w.heap.size w W1):=by rw[←hW1];exact((Below.refl _ _).alloc (Nat.le_refl _) _).alloc (by simp) _
 have hs:W1.heap.size=w.heap.size+2:=by rw[←hW1];simp
 have HS:=hid hs;have p0:W1.cell? ⟨w.heap.size,0,none⟩=some (.int .i64 regs):=by rw[←hW1];simp[go_sem]
 have p1:W1.cell? ⟨w.heap.size,1,none⟩=some (.slice va bs.length vc):=by rw[←hW1];simp[go_sem]
 have HR:Hid (Cls W1 (w.heap.size+1) [.slice none 0 0,.slice none 0 0,.slice none 0 0]):=by
  refine hid ?_;rw[←hW1];have:=Cls.made (w:=w.alloc (.cells #[.int .i64 regs,.slice va bs.length vc] 24)) (cs:=[.slice none 0 0,.slice none 0 0,.slice none 0 0]) (t:=32);simpa using this
 have C1:=hid (M7 set regs bs _ W1 (HV.out.stays BB.out) h0 h1 hi);unfold A3w at C1;clear hv;by_cases hz:F3 set regs bs=0
 rotate_left
 ·have C2:Hid (Calls prog 35 #[.int .i64 set,.agg #[.int .i64 regs,.slice va bs.length vc]] W1 fun e w'=>e= .returned (.tuple #[.pointer none,.int .i64 (F3 set regs bs)])∧Below W1.heap.size W1 w'):=hid (C1.out.mono fun e w' h=>⟨h.1.elim (fun h=>h.2) (fun h=>absurd h.1 hz),h.2⟩);have d1:(F3 set regs bs !=0)=true:=by simpa using hz
  generalize F3 set regs bs=q at*
  clear C1;go_enter func9,ntmps9;go_wp2_with(go_at_call 35;(with_reducible refine C2.out.mono ?_);rintro e w2 ⟨rfl,hb2⟩;have HB2:=hid hb2;have hR2:=HR.out.below (show w.heap.size+1<W1.heap.size by omega) hb2;have HR2:=hid hR2;have t0:=hR2.at 0 _ rfl;have t1:=hR2.at 1 _ rfl;have t2:=hR2.at 2 _ rfl;have g0:=hR2.at' 0 _ rfl;have g1:=hR2.at' 1 _ rfl;have g2:=hR2.at' 2 _ rfl;clear hb2 hR2)
  refine bodyPost_ret (v:=.tuple #[.agg #[.slice none 0 0,.slice none 0 0,.slice none 0 0],.int .i64 q]) (Cls.res2 (cs:=[.slice none 0 0,.slice none 0 0,.slice none 0 0]) (((HR2.out.set (k:=0) (by simp) _).set (k:=1) (by simp) _).set (k:=2) (by simp) _) rfl rfl rfl underlying32 rfl (by kernel_rfl)) rfl ⟨.inl ⟨hz,rfl⟩,A9 (A9 (A9 (A8 BB.out HB2.out) (by omega) _ _) (by omega) _ _) (by omega) _ _⟩
 ·have C2:Hid (Calls prog 35 #[.int .i64 set,.agg #[.int .i64 regs,.slice va bs.length vc]] W1 fun e w'=>∃L lo B b cb d db s g,e= .returned (.tuple #[.pointer (some ⟨L,0,none⟩),.int .i64 0])∧LayW (tS set) B L b cb d db s g bs.flatten (blS bs) (F4 set bs.flatten lo) lo w'∧Relx set bs.flatten (blS bs) lo∧Below W1.heap.size W1 w'):=hid (C1.out.mono fun e w' h=>by
   rcases h.1 with h2|⟨_,L,lo,e1,B,b,cb,d,db,s,g,hl,hr⟩
   ·exact absurd hz h2.1
   ·exact⟨L,lo,B,b,cb,d,db,s,g,e1,hl,hr,h.2⟩)
  have HZ:=hid hz;obtain⟨HSR,hvp⟩:=A0J hz;have HPC:=hid (d9 hvp hi);have hsz0:=(M8 hvp).1;have hcs5:bs.flatten.length≤500:=by rw[E6];exact h0
  have HBL:Hid (0<(blS bs).length):=hid (by rw[L8];unfold H3 at hsz0;omega);have HBT:=hid (show∀(j:Nat),j<bs.flatten.length→L9 (bs.flatten.getD j default).o=true→∃k m:Nat,(bs.flatten.getD j default).t=k∧k<(blS bs).length∧(blS bs).getD k 0=m∧m≤bs.flatten.length from fun j hj hb=>by
   obtain⟨t0,t1⟩:=A8P (HPC.out j hj).ok hb;obtain⟨k,hk⟩:=Int.eq_ofNat_of_zero_le t0;have hk':k<bs.length:=by omega
   refine⟨k,toC (bs.take k),hk,by rw[L8];exact hk',A0H bs hk',?_⟩;rw[E6];exact T9 k)
  clear C1 hz hvp hsz0;generalize hcs:bs.flatten=cs at*
  generalize hbl:blS bs=bl at*
  have HML:=hid (A0l set 390);have HMP:=hid (i9 set 390);have HCF:=hid (A3j set);have HCP:=hid (A1N set);have CB:=hid S5;have CR:=hid (fun x h hb long p q hp hq h4 hl w=>A2Q (nb:=bs.length) HSR x h hb long p q hp hq h4 hl w);have CP:=hid (fun x h hb w=>p9 (nb:=bs.length) HSR x h hb w);unfold ncV at CR CP;have HLB:=hid (show∀(lo:List Bool) (j:Nat),j<cs.length→D4 set cs lo j<D4 set cs lo (j+1)from fun lo j hj=>by have:=(S4 HSR (HPC.out j hj) (lo.getD j false)).1;show _<D4 set cs lo j+_;omega);have HOF:=hid (show∀(lo:List Bool) (i:Nat),i≤cs.length→D4 set cs lo i≤22500 from fun lo i hi=>S3 HSR HPC.out hcs5 lo hi);have HO4:=hid (show∀(lo:List Bool) (i:Nat),i≤cs.length→set=0→D4 set cs lo i%4=0 from fun lo i hi h=>A7a HSR HPC.out lo hi h);go_enter func9,ntmps9;go_wp2_with(go_at_call 35;(with_reducible refine C2.out.mono ?_);rintro e w2 ⟨L,lo,B,b,cb,d,db,s,g,rfl,hlay,hrx,hb2⟩;have HLY:=hid hlay;have HRX:=hid hrx;have HB2:=hid hb2;have l1:=hlay.hl.at 1 (.slice (some ⟨b,0,none⟩) cs.length cb) rfl;have l3:=hlay.hl.at 3 (.slice (some ⟨s,0,none⟩) (cs.length+1) (cs.length+1)) rfl;clear hlay hrx hb2 p0 p1)
  have HN0:Hid (0<cs.length):=hid (by have:=HLY.out.hn;omega);have s1:=HLY.out.hs.at cs.length (.int .i64 (D4 set cs lo cs.length:Nat)) (by rw[←L7 set cs lo (Nat.le_refl _),List.getElem?_map,List.getD_eq_getElem?_getD,List.getElem?_eq_getElem (by rw[J3];omega)];rfl);have hlc:(cs.length:Int)<(cs.length:Int)+1:=by omega
  have HZ0:Hid (0<D4 set cs lo cs.length):=hid (by
   have h1:=HLB.out lo 0 HN0.out;have h2:=q6 set cs lo (show 1≤cs.length from HN0.out);have h3:D4 set cs lo 0<D4 set cs lo 1:=h1;omega)
  have HZ5:=hid (HOF.out lo cs.length (Nat.le_refl _));generalize hzz:D4 set cs lo cs.length=z at*
  generalize hT:tS set=T at*
  generalize fBr set=FB at*
  generalize fPl set=FP at*
  go_quiet(fail)
  have hB3:Hid (Below W1.heap.size W1 (w2.drewN nq)):=B8 HB2.out _;have HL3:Hid (LayW T B L b cb d db s g cs bl (F4 set cs lo) lo (w2.drewN nq)):=HLY.out.below (B8 (Below.refl _ _) _);clear l1 l3 s1 HLY HB2;generalize w2.drewN nq=w3 at*
  by_cases hzb:8192<z
  ·have d2:decide ((8192:Int)<(z:Int))=true:=decide_eq_true (by omega);have hR3:=HR.out.below (show w.heap.size+1<W1.heap.size by omega) hB3.out;have HR3:=hid hR3;have t0:=hR3.at 0 _ rfl;have t1:=hR3.at 1 _ rfl;have t2:=hR3.at 2 _ rfl;have g0:=hR3.at' 0 _ rfl;have g1:=hR3.at' 1 _ rfl;have g2:=hR3.at' 2 _ rfl;clear hR3;go_wp2_with fail
   refine bodyPost_ret (v:=.tuple #[.agg #[.slice none 0 0,.slice none 0 0,.slice none 0 0],.int .i64 3]) (Cls.res2 (cs:=[.slice none 0 0,.slice none 0 0,.slice none 0 0]) (((HR3.out.set (k:=0) (by simp) _).set (k:=1) (by simp) _).set (k:=2) (by simp) _) rfl rfl rfl underlying32 rfl (by kernel_rfl)) rfl ⟨.inr ⟨HZ.out,lo,HRX.out,.inl ⟨by rw[hzz];exact hzb,rfl⟩⟩,A9 (A9 (A9 (A8 BB.out hB3.out) (by omega) _ _) (by omega) _ _) (by omega) _ _⟩
  ·have d2:decide ((8192:Int)<(z:Int))=false:=decide_eq_false (by omega);have hm1:∀w:World,(Instr.makeSlice 28 (.int .i64 (z:Int)) (.int .i64 (z:Int))).run prog w= .ok (.slice (some ⟨w.heap.size,0,none⟩) z z) (w.alloc (.cells (madeCells #[.int .u8 0] z) 5)):=fun w=>run_make_row' 28 5 (.int .u8 0) 1 underlying28 F8 rfl .i64 .i64 z (by omega) (by omega) w
   rw[T5]at hm1;go_upto_region 8 with fail
   have hb4:Below w3.heap.size w3 (((w3.alloc (.cells (Array.replicate z (.int .u8 0)) 5)).alloc (.cells #[.int .i64 0,.int .i64 0] 40)).alloc (.cells #[.slice (some ⟨w3.heap.size,0,none⟩) z z,.slice (some ⟨w3.heap.size+1,0,none⟩) 1 1,.slice none 0 0] 32)):=(((Below.refl _ _).alloc (Nat.le_refl _) _).alloc (by simp) _).alloc (by simp;omega) _;have HE4:Hid (EmL T B L b cb d db s g cs bl (F4 set cs lo) lo z w3.heap.size (w3.heap.size+1+1) (w3.heap.size+1) (w3.heap.size+1+1) [.slice (some ⟨w3.heap.size,0,none⟩) z z,.slice (some ⟨w3.heap.size+1,0,none⟩) 1 1,.slice none 0 0] (List.replicate z 0) W1 (((w3.alloc (.cells (Array.replicate z (.int .u8 0)) 5)).alloc (.cells #[.int .i64 0,.int .i64 0] 40)).alloc (.cells #[.slice (some ⟨w3.heap.size,0,none⟩) z z,.slice (some ⟨w3.heap.size+1,0,none⟩) 1 1,.slice none 0 0] 32))):=by
    obtain⟨l1,l2,l3,l4,l5⟩:=HL3.out.lts HBL.out;obtain⟨c1,c2⟩:=A0E (W:=w3) (xs:=List.replicate z (.int .u8 0)) (ys:=[.int .i64 0,.int .i64 0]) (t:=5) (u:=40);simp only[List.toArray_replicate]at c1 c2;have hsz:((w3.alloc (.cells (Array.replicate z (.int .u8 0)) 5)).alloc (.cells #[.int .i64 0,.int .i64 0] 40)).heap.size=w3.heap.size+1+1:=by simp
    have hcl:∀{v0 v1 v2:Value} {w:World},Cls (w.alloc (.cells #[v0,v1,v2] 32)) w.heap.size [v0,v1,v2]:=fun{_ _ _ _}=>Cls.made
    have hO:Cls (((w3.alloc (.cells (Array.replicate z (.int .u8 0)) 5)).alloc (.cells #[.int .i64 0,.int .i64 0] 40)).alloc (.cells #[.slice (some ⟨w3.heap.size,0,none⟩) z z,.slice (some ⟨w3.heap.size+1,0,none⟩) 1 1,.slice none 0 0] 32)) (w3.heap.size+1+1) [.slice (some ⟨w3.heap.size,0,none⟩) z z,.slice (some ⟨w3.heap.size+1,0,none⟩) 1 1,.slice none 0 0]:=by
     have:=@hcl (.slice (some ⟨w3.heap.size,0,none⟩) z z) (.slice (some ⟨w3.heap.size+1,0,none⟩) 1 1) (.slice none 0 0) ((w3.alloc (.cells (Array.replicate z (.int .u8 0)) 5)).alloc (.cells #[.int .i64 0,.int .i64 0] 40));rw[hsz]at this;exact this
    have hbw:∀k,k<w3.heap.size+2→(((w3.alloc (.cells (Array.replicate z (.int .u8 0)) 5)).alloc (.cells #[.int .i64 0,.int .i64 0] 40)).alloc (.cells #[.slice (some ⟨w3.heap.size,0,none⟩) z z,.slice (some ⟨w3.heap.size+1,0,none⟩) 1 1,.slice none 0 0] 32)).heap[k]? =((w3.alloc (.cells (Array.replicate z (.int .u8 0)) 5)).alloc (.cells #[.int .i64 0,.int .i64 0] 40)).drew.heap[k]? :=fun k hk=>((Below.refl _ _).alloc (Nat.le_refl _) _).block k (by rw[hsz];exact hk)
    have h1:=c1.block (hbw w3.heap.size (by omega));have h2:=c2.block (hbw (w3.heap.size+1) (by omega));have hw3:=hB3.out.size;refine⟨HL3.out.below hb4,⟨by simp,by simp;omega,fun i hi=>?_⟩,hO,h2,hO,by simp,A8 hB3.out hb4,⟨by omega,by omega,by omega,by omega,by omega⟩,by omega,by omega,by omega,hw3,by omega⟩;have hi':i<z:=by simpa using hi
    have:=h1 i (.int .u8 0) (by rw[List.getElem?_replicate,if_pos hi']);rw[List.getD_eq_getElem?_getD,List.getElem?_replicate,if_pos hi'];exact this
   clear hb4 hm1;generalize((w3.alloc (.cells (Array.replicate z (.int .u8 0)) 5)).alloc (.cells #[.int .i64 0,.int .i64 0] 40)).alloc (.cells #[.slice (some ⟨w3.heap.size,0,none⟩) z z,.slice (some ⟨w3.heap.size+1,0,none⟩) 1 1,.slice none 0 0] 32)=w4 at*
   have l1:=HE4.out.lay.hl.at 1 (.slice (some ⟨b,0,none⟩) cs.length cb) rfl;generalize w3.heap.size+1+1=O at*
   generalize w3.heap.size+1=S1 at*
   generalize w3.heap.size=D at*
   go_wp2_with fail
   clear l1
   go_loopw[10,11,46] (fun _ _ i wr=>∃(j:Nat),j≤cs.length∧i= .int .i64 (j:Nat)∧∃C ds,Hid (EmL T B L b cb d db s g cs bl (F4 set cs lo) lo z D O S1 C ds (emB set cs bl lo j++List.replicate (z-D4 set cs lo j) 0) W1 wr)) (fun _ _ i _=>cs.length-(intOf i).toNat)
   case atStart=>exact⟨0,Nat.zero_le _,rfl,_,_,HE4⟩
   case round=>
    obtain⟨j,hj,rfl,C,ds,HE⟩:=hrel;by_cases hlt:j<cs.length
    ·have hlt':(j:Int)<(cs.length:Int):=Int.ofNat_lt.2 hlt;have HLT:=hid hlt;obtain⟨c0,c1,c2,c3,c4,c5⟩:=HE.out.lay.hc j hlt;have HX0:=hid (HPC.out j hlt);have HT0:=hid (HBT.out j hlt);have HFI:Hid (l9 set cs bl lo j):=hid (HRX.out.fine hlt);unfold l9 at HFI;have hblt:=B6 c0;have hne1:¬b=wr.heap.size:=by omega
     have l1r:=HE.out.lay.hl.at 1 (.slice (some ⟨b,0,none⟩) cs.length cb) rfl;have hj1:IntKind.i64.wrap ((j:Int)+1)=((j+1:Nat):Int):=by rw[IntWalk.i64_left];exact IntWalk.wrap64_in _ (by omega)
     have HSJ:Hid (((F4 set cs lo).map fun n=>Value.int .i64 (n:Nat))[j]? =some (.int .i64 (D4 set cs lo j:Nat))):=hid (by rw[←L7 set cs lo (Nat.le_of_lt hlt),List.getElem?_map,List.getD_eq_getElem?_getD,List.getElem?_eq_getElem (by rw[J3];omega)];rfl);have HGJ:Hid ((lo.map Value.bool)[j]? =some (.bool (lo.getD j false))):=hid (by rw[List.getElem?_map,List.getD_eq_getElem?_getD,List.getElem?_eq_getElem (by rw[HE.out.lay.lg];exact hlt)];rfl);have HPB:=hid (A2h HSR HRX.out.ok (bl:=bl) j);have HEB:=hid (A2q HSR HRX.out.ok (bl:=bl) j);have HSP:Hid (D4 set cs lo (j+1)=D4 set cs lo j+N4 set (cs.getD j default) (lo.getD j false)):=hid rfl;have hmz:D4 set cs lo (j+1)≤z:=by rw[←hzz];exact q6 set cs lo hlt
     have HMZ:=hid hmz;have hpq:=HLB.out lo j hlt;have hq9:=HOF.out lo j hj;have hne:¬(z:Nat)=D4 set cs lo j:=by omega
     have hle:D4 set cs lo j≤z:=by omega
     have HPCB:Hid (pcB set cs bl lo j=if L9 (cs.getD j default).o=true then brB set (cs.getD j default) (lo.getD j false) (D4 set cs lo j:Nat) (toF set cs bl lo (cs.getD j default):Nat)else plB set (cs.getD j default)):=hid rfl;have HX4:=hid (HO4.out lo j hj);generalize hxx:cs.getD j default=x at*
     go_upto_region 11 with fail
     generalize hW6:wr.alloc (.cells #[.int .i64 x.o,.int .i64 x.d,.int .i64 x.a,.int .i64 x.b,.int .u32 x.i,.int .i64 x.t] 61)=W6;have HE6:Hid (EmL T B L b cb d db s g cs bl (F4 set cs lo) lo z D O S1 wr.heap.size [.int .i64 x.o,.int .i64 x.d,.int .i64 x.a,.int .i64 x.b,.int .u32 x.i,.int .i64 x.t] (emB set cs bl lo j++List.replicate (z-D4 set cs lo j) 0) W1 W6):=by
      rw[←hW6];exact HE.out.with (by omega) ((Below.refl _ _).alloc (Nat.le_refl _) _) Cls.made (by simp) (Nat.le_refl _)
     clear hW6 c0 c1 c2 c3 c4 c5 l1r hmz;cases hbr:L9 x.o
     rotate_left
     ·have C1:Hid (∀w,Calls prog 36 #[.int .i64 x.o] w fun e w'=>e= .returned (.bool true)∧w=w'):=hid (fun w=>by have:=CB.out x.o w;rw[hbr]at this;exact this);have k0:=HE6.out.c.at 0 (.int .i64 x.o) rfl;go_wp2_with(go_at_call 36;with_reducible refine(C1.out _).mono ?_;rintro e w' ⟨rfl,rfl⟩)
      clear k0;obtain⟨k,m,ht1,ht2,ht3,ht4⟩:=HT0.out hbr;have hto:toF set cs bl lo x=D4 set cs lo m:=by unfold toF;rw[ht1,Int.toNat_natCast,ht3,Int.toNat_natCast]
      have CT:Hid (∀w',EmX T B L b cb d db s g cs bl (F4 set cs lo) lo z D O S1 wr.heap.size [.int .i64 x.o,.int .i64 x.d,.int .i64 x.a,.int .i64 x.b,.int .u32 x.i,.int .i64 x.t] W1 w'→Calls prog 37 #[.pointer (some ⟨L,0,none⟩),(.agg #[.int .i64 x.o,.int .i64 x.d,.int .i64 x.a,.int .i64 x.b,.int .u32 x.i,.int .i64 x.t])] w' fun e w''=>e= .returned (.int .i64 (toF set cs bl lo x:Nat))∧Below w'.heap.size w' w''):=hid (fun w' h=>by
       obtain⟨xs,h⟩:=h;have:=A1f B L b cb d db s g cs bl (F4 set cs lo) lo x k m ht1 ht2 ht3 ht4 w' h.lay;rw[L7 _ _ _ ht4,←hto]at this;exact this)
      have hq2:=HOF.out lo m ht4;have hq3:=HO4.out lo m ht4;rw[←hto]at hq2 hq3;have HX1:Hid (pcB set cs bl lo j=brB set x (lo.getD j false) (D4 set cs lo j:Nat) (toF set cs bl lo x:Nat)):=hid (by rw[HPCB.out,if_pos hbr]);have CQ:Hid (∀w,Calls prog FB #[.agg #[],(.agg #[.int .i64 x.o,.int .i64 x.d,.int .i64 x.a,.int .i64 x.b,.int .u32 x.i,.int .i64 x.t]),.bool (lo.getD j false),.int .i64 (D4 set cs lo j:Nat),.int .i64 (toF set cs bl lo x:Nat)] w fun e w'=>∃u,e= .returned u∧RowI w' w.heap.size 5 .u8 u (pcB set cs bl lo j)∧Below w.heap.size w w'):=hid (fun w=>by
       rw[HX1.out];exact CR.out x HX0.out hbr (lo.getD j false) (D4 set cs lo j:Nat) (toF set cs bl lo x:Nat) (by omega) (by omega) (fun e=>⟨by have:=HX4.out e;omega,by have:=hq3 e;omega⟩) (by
        cases hlb:lo.getD j false
        ·exact .inr (HFI.out hbr hlb)
        ·exact .inl rfl) w)
      clear ht1 ht2 ht3 ht4 hto hq2 hq3;generalize hqn:toF set cs bl lo x=qn at*
      generalize hbj:lo.getD j false=bj at*
      have HPL:Hid (D4 set cs lo j+(pcB set cs bl lo j).length≤z):=hid (by have:=HPB.out;have:=HSP.out;have:=HMZ.out;omega);have HPL2:Hid ((pcB set cs bl lo j).length≤140737488351232):=hid (by have:=HPL.out;have:=HZ5.out;omega);have HPL3:Hid ((pcB set cs bl lo j).length≤z-D4 set cs lo j):=hid (by have:=HPL.out;omega);have HFN:Hid (O7 (emB set cs bl lo j++List.replicate (z-D4 set cs lo j) 0) (D4 set cs lo j) (pcB set cs bl lo j)=emB set cs bl lo (j+1)++List.replicate (z-D4 set cs lo (j+1)) 0):=hid (by
       rw[i3 _ _ _ _ HEB.out HPL3.out];show emB set cs bl lo j++pcB set cs bl lo j++_=emB set cs bl lo j++pcB set cs bl lo j++_
       congr 2
       have:=HPB.out;have:=HSP.out;omega)
      generalize hxs:emB set cs bl lo j++List.replicate (z-D4 set cs lo j) 0=xs0 at*
      generalize hpb:pcB set cs bl lo j=PB at*
      generalize hpn:D4 set cs lo j=pn at*
      have r0:∀wk,EmX T B L b cb d db s g cs bl (F4 set cs lo) lo z D O S1 wr.heap.size [.int .i64 x.o,.int .i64 x.d,.int .i64 x.a,.int .i64 x.b,.int .u32 x.i,.int .i64 x.t] W1 wk→wk.cell? ⟨O,0,none⟩=some (.slice (some ⟨D,0,none⟩) z z):=fun wk h=>by obtain⟨xs,h⟩:=h;exact h.o.at 0 _ rfl
      have r1:∀wk,EmX T B L b cb d db s g cs bl (F4 set cs lo) lo z D O S1 wr.heap.size [.int .i64 x.o,.int .i64 x.d,.int .i64 x.a,.int .i64 x.b,.int .u32 x.i,.int .i64 x.t] W1 wk→wk.cell? ⟨L,3,none⟩=some (.slice (some ⟨s,0,none⟩) (cs.length+1) (cs.length+1)):=fun wk h=>by obtain⟨xs,h⟩:=h;exact h.lay.hl.at 3 _ rfl
      have r2:∀wk,EmX T B L b cb d db s g cs bl (F4 set cs lo) lo z D O S1 wr.heap.size [.int .i64 x.o,.int .i64 x.d,.int .i64 x.a,.int .i64 x.b,.int .u32 x.i,.int .i64 x.t] W1 wk→wk.cell? ⟨L,0,none⟩=some (.iface T (.agg #[])):=fun wk h=>by obtain⟨xs,h⟩:=h;exact h.lay.hl.at 0 _ rfl
      have r3:∀wk,EmX T B L b cb d db s g cs bl (F4 set cs lo) lo z D O S1 wr.heap.size [.int .i64 x.o,.int .i64 x.d,.int .i64 x.a,.int .i64 x.b,.int .u32 x.i,.int .i64 x.t] W1 wk→wk.cell? ⟨s,j,none⟩=some (.int .i64 (pn:Nat)):=fun wk h=>by obtain⟨xs,h⟩:=h;exact h.lay.hs.at j _ HSJ.out
      have r4:∀wk,EmX T B L b cb d db s g cs bl (F4 set cs lo) lo z D O S1 wr.heap.size [.int .i64 x.o,.int .i64 x.d,.int .i64 x.a,.int .i64 x.b,.int .u32 x.i,.int .i64 x.t] W1 wk→wk.cell? ⟨L,4,none⟩=some (.slice (some ⟨g,0,none⟩) cs.length cs.length):=fun wk h=>by obtain⟨xs,h⟩:=h;exact h.lay.hl.at 4 _ rfl
      have r5:∀wk,EmX T B L b cb d db s g cs bl (F4 set cs lo) lo z D O S1 wr.heap.size [.int .i64 x.o,.int .i64 x.d,.int .i64 x.a,.int .i64 x.b,.int .u32 x.i,.int .i64 x.t] W1 wk→wk.cell? ⟨g,j,none⟩=some (.bool bj):=fun wk h=>by obtain⟨xs,h⟩:=h;exact h.lay.hg.at j _ HGJ.out
      have q0:∀wk,EmX T B L b cb d db s g cs bl (F4 set cs lo) lo z D O S1 wr.heap.size [.int .i64 x.o,.int .i64 x.d,.int .i64 x.a,.int .i64 x.b,.int .u32 x.i,.int .i64 x.t] W1 wk→wk.cell? ⟨wr.heap.size,0,none⟩=some (.int .i64 x.o):=fun wk h=>by obtain⟨xs,h⟩:=h;exact h.c.at 0 _ rfl
      have q1:∀wk,EmX T B L b cb d db s g cs bl (F4 set cs lo) lo z D O S1 wr.heap.size [.int .i64 x.o,.int .i64 x.d,.int .i64 x.a,.int .i64 x.b,.int .u32 x.i,.int .i64 x.t] W1 wk→wk.cell? ⟨wr.heap.size,1,none⟩=some (.int .i64 x.d):=fun wk h=>by obtain⟨xs,h⟩:=h;exact h.c.at 1 _ rfl
      have q2:∀wk,EmX T B L b cb d db s g cs bl (F4 set cs lo) lo z D O S1 wr.heap.size [.int .i64 x.o,.int .i64 x.d,.int .i64 x.a,.int .i64 x.b,.int .u32 x.i,.int .i64 x.t] W1 wk→wk.cell? ⟨wr.heap.size,2,none⟩=some (.int .i64 x.a):=fun wk h=>by obtain⟨xs,h⟩:=h;exact h.c.at 2 _ rfl
      have q3:∀wk,EmX T B L b cb d db s g cs bl (F4 set cs lo) lo z D O S1 wr.heap.size [.int .i64 x.o,.int .i64 x.d,.int .i64 x.a,.int .i64 x.b,.int .u32 x.i,.int .i64 x.t] W1 wk→wk.cell? ⟨wr.heap.size,3,none⟩=some (.int .i64 x.b):=fun wk h=>by obtain⟨xs,h⟩:=h;exact h.c.at 3 _ rfl
      have q4:∀wk,EmX T B L b cb d db s g cs bl (F4 set cs lo) lo z D O S1 wr.heap.size [.int .i64 x.o,.int .i64 x.d,.int .i64 x.a,.int .i64 x.b,.int .u32 x.i,.int .i64 x.t] W1 wk→wk.cell? ⟨wr.heap.size,4,none⟩=some (.int .u32 x.i):=fun wk h=>by obtain⟨xs,h⟩:=h;exact h.c.at 4 _ rfl
      have q5:∀wk,EmX T B L b cb d db s g cs bl (F4 set cs lo) lo z D O S1 wr.heap.size [.int .i64 x.o,.int .i64 x.d,.int .i64 x.a,.int .i64 x.b,.int .u32 x.i,.int .i64 x.t] W1 wk→wk.cell? ⟨wr.heap.size,5,none⟩=some (.int .i64 x.t):=fun wk h=>by obtain⟨xs,h⟩:=h;exact h.c.at 5 _ rfl
      have h00:=EmX.of HE6.out;have hm:=HML.out;simp only[String.reducePush,String.reduceAppend,Nat.reduceAdd]at hm;have hcf:=HCF.out;have hltb:=HE6.out.cl;have hdl:=HE6.out.lay.lts HBL.out;have hj2:(j:Int)<(cs.length:Int)+1:=by omega
      have hsl1:(0:Int)≤(pn:Int):=by omega
      have hsl2:(pn:Int)≤(z:Int):=by omega
      go_region_held3(fun wk=>EmX T B L b cb d db s g cs bl (F4 set cs lo) lo z D O S1 wr.heap.size [.int .i64 x.o,.int .i64 x.d,.int .i64 x.a,.int .i64 x.b,.int .u32 x.i,.int .i64 x.t] W1 wk) (first|assumption|exact EmX.drew (by assumption)) (first|(go_at_call 37;with_reducible refine(CT.out _ (by assumption)).mono ?_;rintro e w3 ⟨rfl,hb3⟩;have hs3:=EmX.below (by assumption) hb3;have hem3:=EmL.below (EmL.drew HE6.out) hb3)|(with_reducible refine(CQ.out _).mono ?_;rintro e w5 ⟨v5,rfl,hr5,hb5⟩;have hs5:=EmX.below (by assumption) hb5;have hem5:=EmL.below hem3 hb5;have hi5:=RowI.ints hr5 HPL2.out;obtain⟨hcpy,hem6⟩:=EmL.copied hem5 hi5 (q:=pn) HPL.out;obtain⟨va5,vc5,rfl⟩:=hr5.shape;have hcpy2:=fun ty=>hcpy ty (z-pn) (z-pn) HPL3.out;have hs6:=EmX.of hem6))
      all_goals
       have HF:=hid hem6;rw[HFN.out]at HF;clear hem5 hem6 hcpy hcpy2 r0 r1 r2 r3 q0 q1 q2 q3 q4 q5 h00 hm hcf hs5 hs6;go_wp2_with fail
       go_roundw
       case rel=>exact⟨j+1,by omega,by go_num,_,_,HF⟩
       case measure=>simp[intOf];omega
     ·have C1:Hid (∀w,Calls prog 36 #[.int .i64 x.o] w fun e w'=>e= .returned (.bool false)∧w=w'):=hid (fun w=>by have:=CB.out x.o w;rw[hbr]at this;exact this);have k0:=HE6.out.c.at 0 (.int .i64 x.o) rfl;go_wp2_with(go_at_call 36;with_reducible refine(C1.out _).mono ?_;rintro e w' ⟨rfl,rfl⟩)
      clear k0;have HX1:Hid (pcB set cs bl lo j=plB set x):=hid (by rw[HPCB.out,if_neg (by rw[hbr];decide)]);have CQ:Hid (∀w,Calls prog FP #[.agg #[],(.agg #[.int .i64 x.o,.int .i64 x.d,.int .i64 x.a,.int .i64 x.b,.int .u32 x.i,.int .i64 x.t])] w fun e w'=>∃u,e= .returned u∧RowI w' w.heap.size 5 .u8 u (pcB set cs bl lo j)∧Below w.heap.size w w'):=hid (fun w=>by
       rw[HX1.out];exact CP.out x HX0.out hbr w)
      have HPL:Hid (D4 set cs lo j+(pcB set cs bl lo j).length≤z):=hid (by have:=HPB.out;have:=HSP.out;have:=HMZ.out;omega);have HPL2:Hid ((pcB set cs bl lo j).length≤140737488351232):=hid (by have:=HPL.out;have:=HZ5.out;omega);have HPL3:Hid ((pcB set cs bl lo j).length≤z-D4 set cs lo j):=hid (by have:=HPL.out;omega);have HFN:Hid (O7 (emB set cs bl lo j++List.replicate (z-D4 set cs lo j) 0) (D4 set cs lo j) (pcB set cs bl lo j)=emB set cs bl lo (j+1)++List.replicate (z-D4 set cs lo (j+1)) 0):=hid (by
       rw[i3 _ _ _ _ HEB.out HPL3.out];show emB set cs bl lo j++pcB set cs bl lo j++_=emB set cs bl lo j++pcB set cs bl lo j++_
       congr 2
       have:=HPB.out;have:=HSP.out;omega)
      generalize hxs:emB set cs bl lo j++List.replicate (z-D4 set cs lo j) 0=xs0 at*
      generalize hpb:pcB set cs bl lo j=PB at*
      generalize hpn:D4 set cs lo j=pn at*
      have r0:∀wk,EmX T B L b cb d db s g cs bl (F4 set cs lo) lo z D O S1 wr.heap.size [.int .i64 x.o,.int .i64 x.d,.int .i64 x.a,.int .i64 x.b,.int .u32 x.i,.int .i64 x.t] W1 wk→wk.cell? ⟨O,0,none⟩=some (.slice (some ⟨D,0,none⟩) z z):=fun wk h=>by obtain⟨xs,h⟩:=h;exact h.o.at 0 _ rfl
      have r1:∀wk,EmX T B L b cb d db s g cs bl (F4 set cs lo) lo z D O S1 wr.heap.size [.int .i64 x.o,.int .i64 x.d,.int .i64 x.a,.int .i64 x.b,.int .u32 x.i,.int .i64 x.t] W1 wk→wk.cell? ⟨L,3,none⟩=some (.slice (some ⟨s,0,none⟩) (cs.length+1) (cs.length+1)):=fun wk h=>by obtain⟨xs,h⟩:=h;exact h.lay.hl.at 3 _ rfl
      have r2:∀wk,EmX T B L b cb d db s g cs bl (F4 set cs lo) lo z D O S1 wr.heap.size [.int .i64 x.o,.int .i64 x.d,.int .i64 x.a,.int .i64 x.b,.int .u32 x.i,.int .i64 x.t] W1 wk→wk.cell? ⟨L,0,none⟩=some (.iface T (.agg #[])):=fun wk h=>by obtain⟨xs,h⟩:=h;exact h.lay.hl.at 0 _ rfl
      have r3:∀wk,EmX T B L b cb d db s g cs bl (F4 set cs lo) lo z D O S1 wr.heap.size [.int .i64 x.o,.int .i64 x.d,.int .i64 x.a,.int .i64 x.b,.int .u32 x.i,.int .i64 x.t] W1 wk→wk.cell? ⟨s,j,none⟩=some (.int .i64 (pn:Nat)):=fun wk h=>by obtain⟨xs,h⟩:=h;exact h.lay.hs.at j _ HSJ.out
      have q0:∀wk,EmX T B L b cb d db s g cs bl (F4 set cs lo) lo z D O S1 wr.heap.size [.int .i64 x.o,.int .i64 x.d,.int .i64 x.a,.int .i64 x.b,.int .u32 x.i,.int .i64 x.t] W1 wk→wk.cell? ⟨wr.heap.size,0,none⟩=some (.int .i64 x.o):=fun wk h=>by obtain⟨xs,h⟩:=h;exact h.c.at 0 _ rfl
      have q1:∀wk,EmX T B L b cb d db s g cs bl (F4 set cs lo) lo z D O S1 wr.heap.size [.int .i64 x.o,.int .i64 x.d,.int .i64 x.a,.int .i64 x.b,.int .u32 x.i,.int .i64 x.t] W1 wk→wk.cell? ⟨wr.heap.size,1,none⟩=some (.int .i64 x.d):=fun wk h=>by obtain⟨xs,h⟩:=h;exact h.c.at 1 _ rfl
      have q2:∀wk,EmX T B L b cb d db s g cs bl (F4 set cs lo) lo z D O S1 wr.heap.size [.int .i64 x.o,.int .i64 x.d,.int .i64 x.a,.int .i64 x.b,.int .u32 x.i,.int .i64 x.t] W1 wk→wk.cell? ⟨wr.heap.size,2,none⟩=some (.int .i64 x.a):=fun wk h=>by obtain⟨xs,h⟩:=h;exact h.c.at 2 _ rfl
      have q3:∀wk,EmX T B L b cb d db s g cs bl (F4 set cs lo) lo z D O S1 wr.heap.size [.int .i64 x.o,.int .i64 x.d,.int .i64 x.a,.int .i64 x.b,.int .u32 x.i,.int .i64 x.t] W1 wk→wk.cell? ⟨wr.heap.size,3,none⟩=some (.int .i64 x.b):=fun wk h=>by obtain⟨xs,h⟩:=h;exact h.c.at 3 _ rfl
      have q4:∀wk,EmX T B L b cb d db s g cs bl (F4 set cs lo) lo z D O S1 wr.heap.size [.int .i64 x.o,.int .i64 x.d,.int .i64 x.a,.int .i64 x.b,.int .u32 x.i,.int .i64 x.t] W1 wk→wk.cell? ⟨wr.heap.size,4,none⟩=some (.int .u32 x.i):=fun wk h=>by obtain⟨xs,h⟩:=h;exact h.c.at 4 _ rfl
      have q5:∀wk,EmX T B L b cb d db s g cs bl (F4 set cs lo) lo z D O S1 wr.heap.size [.int .i64 x.o,.int .i64 x.d,.int .i64 x.a,.int .i64 x.b,.int .u32 x.i,.int .i64 x.t] W1 wk→wk.cell? ⟨wr.heap.size,5,none⟩=some (.int .i64 x.t):=fun wk h=>by obtain⟨xs,h⟩:=h;exact h.c.at 5 _ rfl
      have h00:=EmX.of HE6.out;have hm:=HMP.out;simp only[String.reducePush,String.reduceAppend,Nat.reduceAdd]at hm;have hcf:=HCP.out;have hltb:=HE6.out.cl;have hdl:=HE6.out.lay.lts HBL.out;have hj2:(j:Int)<(cs.length:Int)+1:=by omega
      have hsl1:(0:Int)≤(pn:Int):=by omega
      have hsl2:(pn:Int)≤(z:Int):=by omega
      go_region_held3(fun wk=>EmX T B L b cb d db s g cs bl (F4 set cs lo) lo z D O S1 wr.heap.size [.int .i64 x.o,.int .i64 x.d,.int .i64 x.a,.int .i64 x.b,.int .u32 x.i,.int .i64 x.t] W1 wk) (first|assumption|exact EmX.drew (by assumption)) ((with_reducible refine(CQ.out _).mono ?_;rintro e w5 ⟨v5,rfl,hr5,hb5⟩;have hs5:=EmX.below (by assumption) hb5;have hem5:=EmL.below (EmL.drew HE6.out) hb5;have hi5:=RowI.ints hr5 HPL2.out;obtain⟨hcpy,hem6⟩:=EmL.copied hem5 hi5 (q:=pn) HPL.out;obtain⟨va5,vc5,rfl⟩:=hr5.shape;have hcpy2:=fun ty=>hcpy ty (z-pn) (z-pn) HPL3.out;have hs6:=EmX.of hem6))
      all_goals
       have HF:=hid hem6;rw[HFN.out]at HF;clear hem5 hem6 hcpy hcpy2 r0 r1 r2 r3 q0 q1 q2 q3 q4 q5 h00 hm hcf hs5 hs6;go_wp2_with fail
       go_roundw
       case rel=>exact⟨j+1,by omega,by go_num,_,_,HF⟩
       case measure=>simp[intOf];omega
    ·obtain rfl:j=cs.length:=by omega
     have hd:decide ((cs.length:Int)<(cs.length:Int))=false:=decide_eq_false (by omega);have hFin:Hid (OInts .u8 wr D (emB set cs bl lo cs.length)):=by
      have:=HE.out.xd.2;rw[hzz,Nat.sub_self,List.replicate_zero,List.append_nil]at this;exact hid this
     have HE1:=hid HE.out.s1;have HNO:=hid HE.out.no;have r0:=HE.out.o.at 0 (.slice (some ⟨D,0,none⟩) z z) rfl;have r1:=HE.out.o.at 1 (.slice (some ⟨S1,0,none⟩) 1 1) rfl;have r2:=HE.out.o.at 2 (.slice none 0 0) rfl;have HRr:Hid (Cls wr (w.heap.size+1) [.slice none 0 0,.slice none 0 0,.slice none 0 0]):=HR.out.below (show w.heap.size+1<W1.heap.size by omega) HE.out.k;have t0:=HRr.out.at 0 _ rfl;have t1:=HRr.out.at 1 _ rfl;have t2:=HRr.out.at 2 _ rfl;have g0:=HRr.out.at' 0 _ rfl;have g1:=HRr.out.at' 1 _ rfl;have g2:=HRr.out.at' 2 _ rfl;have HBW:Hid (Below w.heap.size w wr):=B7 BB.out BB.out.size HE.out.k;go_wp2_with fail
     refine bodyPost_ret (v:=.tuple #[.agg #[.slice (some ⟨D,0,none⟩) z z,.slice (some ⟨S1,0,none⟩) 1 1,.slice none 0 0],.int .i64 0]) (Cls.res2 (cs:=[.slice (some ⟨D,0,none⟩) z z,.slice (some ⟨S1,0,none⟩) 1 1,.slice none 0 0]) (((HRr.out.set (k:=0) (by simp) _).set (k:=1) (by simp) _).set (k:=2) (by simp) _) rfl rfl rfl underlying32 rfl (by kernel_rfl)) rfl ⟨.inr ⟨HZ.out,lo,HRX.out,.inr ⟨by rw[hzz];omega,D,S1,by rw[hzz],?_,?_⟩⟩,A9 (A9 (A9 HBW.out (by omega) _ _) (by omega) _ _) (by omega) _ _⟩
     ·refine hFin.out.block ?_ (by simp);rw[Below.heap_setCell _ _ _ _ (by show D≠w.heap.size+1;have:=HNO.out;omega),Below.heap_setCell _ _ _ _ (by show D≠w.heap.size+1;have:=HNO.out;omega),Below.heap_setCell _ _ _ _ (by show D≠w.heap.size+1;have:=HNO.out;omega)]
     ·exact((HE1.out.other (by have:=HNO.out;omega) _).other (by have:=HNO.out;omega) _).other (by have:=HNO.out;omega) _
end Go.Proofs.YtajljbmeaeeknaaGreat
