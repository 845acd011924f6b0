/- -/
import Derived.Test.YtdojafpjipcbjaaGreatK37
open Go.Proofs.Tryz
open Go.Lib (hid)
set_option maxHeartbeats 1000000
set_option maxRecDepth 100000
namespace Go.Proofs.YtdojafpjipcbjaaGreat
open Go.RowKit
set_option linter.unusedVariables false
set_option linter.unusedSimpArgs false
theorem CellsAt.otherCells{w:World}{b b':Nat}{cs:List Value}(h:CellsAt w b cs)(hb:b≠b')(ds:List Value):CellsAt (w.setCells b' 0 ds) b cs:=fun k v hk=>by
 have:=h k v hk;exact⟨by rw[World.cell?_setCells_out b' ds 0 w _ (fun e _=>absurd e hb)];exact this.1,by rw[World.frozen?_setCells];exact this.2⟩
structure RS(base B:Nat)(mv:Value)(zs:List Value)(w:World)(c:Mac)(wk:World):Prop where
 cc:CellsAt wk B (A4 c mv)
 k:CellsAt wk (B+1) zs
 m:MemO base wk mv c.m
 o:MOk c
 l:c.m.length≤32768
 f:0≤c.f∧c.f≤15
 b:Below w.heap.size w wk
 bb:w.heap.size≤B
 lt:B+1<base
 bw:base≤wk.heap.size
 zl:zs.length=36
theorem RS.next{base B:Nat}{mv:Value}{zs:List Value}{w:World}{c c':Mac}{wk w7:World}(h:RS base B mv zs w c wk)(hm:MemO base w7 mv c'.m)(ho:MOk c')(hl:c'.m.length≤32768)(hf:0≤c'.f∧c'.f≤15)(hb:Below base wk w7):RS base B mv zs w c' (w7.setCells B 0 (A4 c' mv)):=by
 have hc:CellsAt w7 B (A4 c mv):=h.cc.block (hb.block B (by have:=h.lt;omega));have hk:CellsAt w7 (B+1) zs:=h.k.block (hb.block (B+1) h.lt);exact⟨hc.setCells (by rw[B1 ho.rl,B1 h.o.rl]),hk.otherCells (by omega) _,hm.setCells (by have:=h.lt;omega) _,ho,hl,hf,E0 h.bb _ 0 _ (h.b.trans (hb.mono (by have:=h.lt;have:=h.bb;omega))),h.bb,h.lt,by rw[J5];exact Nat.le_trans h.bw hb.size,h.zl⟩
theorem RS.there{base B:Nat}{mv:Value}{zs:List Value}{w:World}{c c':Mac}{wk w7:World}(h:RS base B mv zs w c wk)(ho:MOk c')(hb:Below base wk w7):w7.there B 0 (A4 c' mv).toArray.size:=
 (h.cc.block (hb.block B (by have:=h.lt;omega)):CellsAt w7 B (A4 c mv)).there (by rw[B1 ho.rl,B1 h.o.rl])
theorem RS.setE{base B:Nat}{mv:Value}{zs:List Value}{w:World}{c:Mac}{wk:World}(h:RS base B mv zs w c wk)(n:Int):RS base B mv zs w {c with e:=n} (wk.setCell ⟨B,35,none⟩ (.int .i64 n)):=by
 have hc:=h.cc.set (k:=35) (by rw[B1 h.o.rl];decide) (.int .i64 n);rw[p6 h.o.rl]at hc;exact⟨hc,h.k.other (by omega) _,h.m.set (by have:=h.lt;omega) _,⟨h.o.rl,h.o.rb,h.o.ab,h.o.mb⟩,h.l,h.f,h.b.setCell (p:=⟨B,35,none⟩) h.bb _,h.bb,h.lt,by simpa[World.setCell]using h.bw,h.zl⟩
theorem A4P(c:Mac)(mv:Value)(k:Int)(w:World)(ho:MOk c)(hm:Ints .u8 w mv c.m):Calls prog 12 #[.agg (A4 c mv).toArray,.int .i64 k] w fun e w'=>(∃mv',e= .returned (.tuple #[.agg (A4 (L9 c k).1 mv').toArray,.int .i64 (L9 c k).2,.int .i64 (K4 c k)])∧MemO w.heap.size w' mv' (L9 c k).1.m∧MOk (L9 c k).1∧(L9 c k).1.m.length≤32768)∧Below w.heap.size w w':=by
 have hsz0:(prog.info? 26).map (·.size)=some (A4 G3 (.slice none 0 0)).length:=I3 rfl _;have hlen:=B1 ho.rl mv;obtain⟨k0,k1,hb1,hs1⟩:=O0 w (A4 c mv) (A4 G3 (.slice none 0 0)) 26 (by omega);rw[←c9]at k0 k1 hb1 hs1;have hv1:=hm.stays hb1;obtain⟨W1,hW1⟩:∃W,((w.alloc (.cells (A4 c mv).toArray 26)).alloc (.cells #[.int .u32 0,.int .u32 0,.int .u32 0,.int .u32 0,.int .u32 0,.int .u32 0,.int .u32 0,.int .u32 0,.int .u32 0,.int .u32 0,.int .u32 0,.int .u32 0,.int .u32 0,.int .u32 0,.int .u32 0,.int .u32 0,.int .u32 0,.int .u32 0,.int .u32 0,.int .u32 0,.int .u32 0,.int .u32 0,.int .u32 0,.int .u32 0,.int .u32 0,.int .u32 0,.int .u32 0,.int .u32 0,.int .u32 0,.int .u32 0,.int .u32 0,.int .u32 0,.int .i64 0,.int .u32 0,.slice none 0 0,.int .i64 0] 26))=W:=⟨_,rfl⟩
 rw[hW1]at k0 k1 hb1 hs1 hv1;have HCH:=hid (c8 c mv k W1 ho.rl hv1);have HV1:=hid hv1;have HB1:=hid hb1;have HK0:=hid k0;have HK1:=hid k1;have HSZ0:=hid hsz0;have HO:=hid ho;have HM:=hid hm;have hszm:=I3 ho.rl mv;have hrg:=k0.range;have hlt1:w.heap.size+1<W1.heap.size:=by omega
 have HMA:Hid ((∃n:Int,K4 c k=n∧(n=1∨n=9))∨(0≤k∧k≤200000∧c.e=0∧K4 c k=0∧c.m.length≤32768∧0≤c.f∧c.f≤15)):=hid (by
  rcases A2T c k with⟨_,h⟩|⟨_,_,h⟩|⟨_,_,_,_,h⟩|⟨_,h⟩
  ·exact Or.inl ⟨1,h,Or.inl rfl⟩
  ·exact Or.inl ⟨1,h,Or.inl rfl⟩
  ·exact Or.inl ⟨9,h,Or.inr rfl⟩
  ·exact Or.inr h)
 have HRR0:Hid (K4 c k≠0→L9 c k=(G3,0)):=hid (fun h=>by unfold L9;rw[if_neg h]);have HRR1:Hid (K4 c k=0→L9 c k=(U4 (K3 k.toNat c).1,((K3 k.toNat c).2:Int))):=hid (fun h=>by unfold L9;rw[if_pos h]);obtain⟨E,hE⟩:∃E,K4 c k=E:=⟨_,rfl⟩
 rw[hE]at HCH;have HE:=hid hE;obtain⟨cs,hcs⟩:∃cs,A4 c mv=cs:=⟨_,rfl⟩
 have HCS:=hid hcs;have HLN:=hid hlen;rw[hcs]at hrg hszm HCH⊢;simp only[hcs]at hW1;clear k0 k1 hb1 hsz0 hs1 hv1 ho hm hE hlen;go_enter func12,ntmps12;go_upto_region 2 with(first|(refine wpList_load_mid rfl _ _ rfl w.heap.size 0 rfl cs _ hrg underlying26 rfl hszm ?_)|((with_reducible refine(HCH.out).mono ?_);rintro e w2 ⟨rfl,hb2⟩))
 have K0:=HK0.out.below (by rw[HLN.out];decide) hb2;have K1:=HK1.out.below (by rw[B1 rfl];decide) hb2;have hb02:=HB1.out.trans (hb2.mono (by omega));have hv2:=HV1.out.stays hb2;have hlt2:w.heap.size+1<w2.heap.size:=Nat.lt_of_lt_of_le hlt1 hb2.size;have hthz:=K1.there (ds:=A4 G3 (.slice none 0 0)) rfl;have hszz:(prog.info? 26).map (·.size)=some (A4 G3 (.slice none 0 0)).toArray.size:=by simpa using HSZ0.out
 have honez:=G5 (c:=G3) (mv:=.slice none 0 0) ⟨_,_,_,rfl⟩;have KZ:=hid (K1.setCells (ds:=A4 G3 (.slice none 0 0)) rfl);have BZ:=hid (E0 (b:=w.heap.size+1) (by omega) (A4 G3 (.slice none 0 0)) 0 w2 hb02);clear hW1 HCH hrg;rcases HMA.out with⟨n,hn,rfl|rfl⟩|⟨hk0,hk1,he,hR,hl,hf0,hf1⟩
 ·have e1:E=1:=HE.out.symm.trans hn;subst e1;have HRE:=hid hn;have HR:=hid (HRR0.out (by rw[hn];decide));clear K0 K1 hv2 hn;exact A6B
 ·have e1:E=9:=HE.out.symm.trans hn;subst e1;have HRE:=hid hn;have HR:=hid (HRR0.out (by rw[hn];decide));clear K0 K1 hv2 hn;exact B1H
 ·have e1:E=0:=HE.out.symm.trans hR;subst e1;have HRE:=hid hR;obtain⟨K,rfl⟩:=Int.eq_ofNat_of_zero_le hk0;have HR:Hid (L9 c K=(U4 (K3 K c).1,((K3 K c).2:Int))):=hid (HRR1.out hR);have HHE:=hid he;have hrg:=K0.range;rw[HCS.out]at hrg;have HK02:=hid K0;have HK12:=hid K1;have HB02:=hid hb02;have CCP:=hid (l8 c mv w2 HO.out hv2 (by omega));rw[HCS.out]at CCP;have HLF:=hid (And.intro hl (And.intro hf0 hf1));clear he hv2 K0 K1 hb02 hthz hszz honez KZ BZ hR hl hf0 hf1 hb2;go_upto_region 5 with(first|(refine wpList_load_mid rfl _ _ rfl w.heap.size 0 rfl cs _ hrg underlying26 rfl hszm ?_)|((with_reducible refine(CCP.out).mono ?_);rintro e w3 ⟨mvo,rfl,hmo,hb3⟩;have hth0:=(HK02.out.below (by rw[HLN.out];decide) hb3).there (ds:=A4 c mvo) (by rw[B1 HO.out.rl,HLN.out]))|(refine wpList_store_mid rfl _ _ _ rfl w.heap.size 0 (A4 c mvo).toArray rfl rfl hth0 (by rw[List.size_toArray];exact I3 HO.out.rl mvo) (G5 hmo.isSlice) ?_))
  have k3:=(HK02.out.below (by rw[HLN.out];decide) hb3).setCells (ds:=A4 c mvo) (by rw[B1 HO.out.rl,HLN.out]);have k4:=(HK12.out.below (by rw[B1 rfl];decide) hb3).otherCells (b':=w.heap.size) (by omega) (A4 c mvo);have hrs:RS w2.heap.size w.heap.size mvo (A4 G3 (.slice none 0 0)) w c (w3.setCells w.heap.size 0 (A4 c mvo)):=⟨k3,k4,hmo.setCells (by omega) _,HO.out,HLF.out.1,HLF.out.2,E0 (Nat.le_refl _) _ 0 _ (HB02.out.trans (hb3.mono (by omega))),Nat.le_refl _,hlt2,by rw[J5];exact hb3.size,B1 rfl _⟩
  have HD6:=hid hrs;clear k3 k4 hth0 hmo hb3 hrs hrg CCP;generalize w3.setCells w.heap.size 0 (A4 c mvo)=W6 at*
  go_wp2_with fail
  go_loopw[8] (fun i wr=>∃(j:Nat) (c':Mac),j≤K∧i= .int .i64 j∧RS w2.heap.size w.heap.size mvo (A4 G3 (.slice none 0 0)) w c' wr∧Hid (K3 K c=((K3 (K-j) c').1,(K3 (K-j) c').2+j))) (fun i wr=>2*(K-(intOf i).toNat)+e01 (wr.cell? ⟨w.heap.size,35,none⟩))
  case atStart=>exact⟨0,c,Nat.zero_le _,rfl,HD6.out,hid (by rw[Nat.sub_zero];rfl)⟩
  case round=>
   obtain⟨j,c',hj,rfl,hds,HRUN⟩:=hrel;have HDJ:=hid hds;obtain⟨-,-,-,⟨k35,g35⟩⟩:=hds.cc.tails hds.o.rl;have hMr:w.heap.size<wr.heap.size:=by have:=hds.lt;have:=hds.bw;omega
   clear hds;by_cases he:c'.e=0
   ·rw[he]at k35;by_cases hlt:j<K
    ·have dj:decide ((j:Int)<(K:Int))=true:=decide_eq_true (by omega);have CST:=hid (o8 HDJ.out.bw HDJ.out.o HDJ.out.m HDJ.out.l HDJ.out.f he);have HE9:=hid he;have K35:=hid (show wr.cell? ⟨w.heap.size,35,none⟩=some (.int .i64 0)from k35);have hrgJ:=HDJ.out.cc.range;have hszJ:=I3 HDJ.out.o.rl mvo;obtain⟨csj,hcsj⟩:∃l,A4 c' mvo=l:=⟨_,rfl⟩
     rw[hcsj]at hrgJ hszJ CST;clear hcsj;go_upto_region 8 with(first|(refine wpList_load_mid rfl _ _ rfl w.heap.size 0 rfl csj _ hrgJ underlying26 rfl hszJ ?_)|((with_reducible refine(CST.out).mono ?_);rintro e w7 ⟨rfl,⟨hm7,ho7,hl7,hf7⟩,hb7⟩;have hth7:=HDJ.out.there ho7 hb7)|(refine wpList_store_mid rfl _ _ _ rfl w.heap.size 0 (A4 (F3 c') mvo).toArray rfl rfl hth7 (by rw[List.size_toArray];exact I3 ho7.rl mvo) (G5 hm7.isSlice) ?_))
     have hD7:=HDJ.out.next hm7 ho7 hl7 hf7 hb7
     have HD7:=hid hD7;clear hm7 ho7 hl7 hf7 hb7 hth7 hrgJ hszJ k35 g35 he dj;generalize w7.setCells w.heap.size 0 (A4 (F3 c') mvo)=W7 at*
     obtain⟨-,-,-,⟨q35,-⟩⟩:=hD7.cc.tails hD7.o.rl;have hM7:w.heap.size<W7.heap.size:=by have:=hD7.lt;have:=hD7.bw;omega
     clear hD7;by_cases h3:(F3 c').e=3
     ·rw[h3]at q35;have H3:=hid h3;have Q35:=hid (show W7.cell? ⟨w.heap.size,35,none⟩=some (.int .i64 3)from q35);clear h3;exact B0w
     ·have d3:((F3 c').e==3)=false:=by simpa using h3
      have H3:=hid h3;clear h3;generalize(F3 c').e=e7 at q35 d3;go_wp2_with fail
      go_roundw
      case rel=>exact⟨j+1,F3 c',by omega,by go_num,HD7.out,hid (by
       rw[HRUN.out,show K-j=(K-(j+1))+1 by omega,A2M HE9.out H3.out];simp only;rw[Nat.add_assoc,Nat.add_comm 1 j])⟩
      case measure=>
       have h01:=A5D (W7.cell? ⟨w.heap.size,35,none⟩);simp only[intOf];omega
    ·obtain rfl:j=K:=by omega
     have dj:decide ((j:Int)<(j:Int))=false:=decide_eq_false (by omega);have HF:Hid (U4 (K3 j c).1={c' with e:=4}∧(K3 j c).2=j):=hid (by rw[HRUN.out,Nat.sub_self];exact⟨by show U4 c'=_;unfold U4;rw[if_pos he],by show 0+j=j;omega⟩);have HDF:=hid (HDJ.out.setE 4);clear he hlt;go_upto_region 12 with fail
     generalize wr.setCell ⟨w.heap.size,35,none⟩ (.int .i64 4)=W9 at*
     obtain⟨⟨z1,z2⟩,z3,hth,hk2⟩:=G9 (c:={c' with e:=4}) HDF.out.o.rl HDF.out.m.isSlice HDF.out.k HDF.out.zl;have hrgE:=HDF.out.cc.range;have hBE:w.heap.size<W9.heap.size:=by have:=HDF.out.lt;have:=HDF.out.bw;omega
     obtain⟨dsE,hdsE⟩:∃dsE,A4 {c' with e:=4} mvo=dsE:=⟨_,rfl⟩
     have HCE:=hid hdsE;rw[hdsE]at z1 z2 z3 hth hk2 hrgE;have HK2:=hid hk2;have HSZ1:=hid z1;clear hdsE hk2;go_wp2_with(first|(refine wpList_load_mid rfl _ _ rfl w.heap.size 0 rfl dsE _ hrgE underlying26 rfl z1 ?_)|(refine wpList_store_mid rfl _ _ _ rfl (w.heap.size+1) 0 dsE.toArray rfl rfl hth z2 z3 ?_))
     refine bodyPost_ret (v:=.tuple #[.agg dsE.toArray,.int .i64 (j:Int),.int .i64 0]) (A2r rfl rfl rfl rfl HK2.out underlying26 rfl HSZ1.out) rfl ?_;rw[HR.out,HRE.out,HF.out.1,HF.out.2];exact⟨⟨mvo,by rw[HCE.out],(HDF.out.m.setCells HDF.out.lt dsE).low (by have:=HDF.out.lt;omega),HDF.out.o,HDF.out.l⟩,E0 (by omega) dsE 0 _ HDF.out.b⟩
   ·have de:(c'.e==0)=false:=by simpa using he
    have HF:Hid (U4 (K3 K c).1=c'∧(K3 K c).2=j):=hid (by rw[HRUN.out,Z3 he];exact⟨by show U4 c'=_;unfold U4;rw[if_neg he],by show 0+j=j;omega⟩);clear he;generalize c'.e=ee at k35 de;go_upto_region 12 with fail
    obtain⟨⟨z1,z2⟩,z3,hth,hk2⟩:=G9 (c:=c') HDJ.out.o.rl HDJ.out.m.isSlice HDJ.out.k HDJ.out.zl;have hrgE:=HDJ.out.cc.range;have hBE:w.heap.size<wr.heap.size:=by have:=HDJ.out.lt;have:=HDJ.out.bw;omega
    obtain⟨dsE,hdsE⟩:∃dsE,A4 c' mvo=dsE:=⟨_,rfl⟩
    have HCE:=hid hdsE;rw[hdsE]at z1 z2 z3 hth hk2 hrgE;have HK2:=hid hk2;have HSZ1:=hid z1;clear hdsE hk2;go_wp2_with(first|(refine wpList_load_mid rfl _ _ rfl w.heap.size 0 rfl dsE _ hrgE underlying26 rfl z1 ?_)|(refine wpList_store_mid rfl _ _ _ rfl (w.heap.size+1) 0 dsE.toArray rfl rfl hth z2 z3 ?_))
    refine bodyPost_ret (v:=.tuple #[.agg dsE.toArray,.int .i64 (j:Int),.int .i64 0]) (A2r rfl rfl rfl rfl HK2.out underlying26 rfl HSZ1.out) rfl ?_;rw[HR.out,HRE.out,HF.out.1,HF.out.2];exact⟨⟨mvo,by rw[HCE.out],(HDJ.out.m.setCells HDJ.out.lt dsE).low (by have:=HDJ.out.lt;omega),HDJ.out.o,HDJ.out.l⟩,E0 (by omega) dsE 0 _ HDJ.out.b⟩
theorem A5W(c:Mac)(mv:Value)(k:Int)(w:World)(ho:MOk c)(hm:Ints .u8 w mv c.m):Calls prog 4 #[.agg (A4 c mv).toArray,.int .i64 k] w fun e w'=>e= .returned (.bool true)∧Below w.heap.size w w':=by
 have hlen:=B1 ho.rl mv;obtain⟨hb1,k0⟩:=M9 w (A4 c mv) 26;have hv1:=hm.stays hb1;obtain⟨W1,hW1⟩:∃W,w.alloc (.cells (A4 c mv).toArray 26)=W:=⟨_,rfl⟩
 have hs1:W1.heap.size=w.heap.size+1:=by rw[←hW1];simp
 rw[hW1]at hb1 k0 hv1;obtain⟨-,-,⟨c34,-⟩,-⟩:=k0.tails ho.rl;obtain⟨va,vc,hmv,hl1,hl2⟩:=hm.shape;have hD:(decide ((70000:Int)<(c.m.length:Int))=true∨(decide ((70000:Int)<(c.m.length:Int))=false∧decide (2000<k)=true∧decide (k≤200000)=true))∨(c.m.length≤70000∧decide ((70000:Int)<(c.m.length:Int))=false∧(decide (2000<k)=false∨(decide (2000<k)=true∧decide (k≤200000)=false))):=by
  by_cases h1:(70000:Int)<(c.m.length:Int)<;>by_cases h2:2000<k<;>by_cases h3:k≤200000<;>simp[h1,h2,h3]<;>omega
 have HB1:=hid hb1;rcases hD with hD|⟨hl3,d1,hD⟩
 ·rw[hmv]at c34;generalize A4 c mv=cs at*
  clear k0 hv1 hb1 hlen hm hmv hl2 ho;rcases hD with d1|⟨d1,d2,d3⟩<;>(
   go_enter func4,ntmps4;go_wp2_with(go_at_call 6;with_reducible refine(T7 _).mono ?_;rintro e wk ⟨rfl,hbk⟩)
   go_ret;exact⟨rfl,HB1.out.trans (hbk.mono (by omega))⟩)
 have HA:=hid (A7I c mv k W1 ho hv1);have HR:=hid (fun(wk:World) (hb:Below W1.heap.size W1 wk)=>A4P c mv k wk ho (hv1.stays hb));have HC:=hid (fun(wk:World) (hb:Below W1.heap.size W1 wk)=>(k0.below (by rw[hlen];decide) hb).range);have HSM:=hid (fun(va vb:Value) (wk:World) (h1:MOk (L9 c k).1) (h2:(L9 c k).1.m.length≤32768) (ha:MemO W1.heap.size wk va (L9 c k).1.m) (hb:Ints .u8 wk vb (L9 c k).1.m)=>u6 (L9 c k).1 va vb wk h1.rl (ha.ints (by omega)) hb);have hrg:=k0.range;have hszm:=I3 ho.rl mv;rw[hmv]at c34;obtain⟨cs,hcs⟩:∃cs,A4 c mv=cs:=⟨_,rfl⟩
 rw[hcs]at hW1 hrg hszm HA⊢;simp only[hcs]at HR HC;generalize K4 c k=q at*
 generalize hRR:L9 c k=R at*
 obtain⟨a,n⟩:=R;simp only at HA HR HSM;clear k0 hb1 hlen hv1 ho hm hmv hcs hl1 hl2 hRR;rcases hD with d2|⟨d2,d3⟩
 all_goals
  go_enter func4,ntmps4;go_upto_region 3 with fail
  clear hW1;go_upto_region 4 with(first|(refine wpList_load_mid rfl _ _ rfl w.heap.size 0 rfl cs _ hrg underlying26 rfl hszm ?_)|((with_reducible refine(HA.out).mono ?_);rintro e w2 ⟨⟨mva,rfl,hma,hoa,hla⟩,hb2⟩)|(refine wpList_store_row rfl _ _ _ rfl w2.heap.size (A4 a mva).toArray rfl rfl 26 _ (N5 _ _ _) (P9 hoa.rl _) (Q2 hoa.rl _) (G5 hma.isSlice) ?_))
  obtain⟨hr1,hr2,hr3⟩:=O5 w2 #[.int .u32 0,.int .u32 0,.int .u32 0,.int .u32 0,.int .u32 0,.int .u32 0,.int .u32 0,.int .u32 0,.int .u32 0,.int .u32 0,.int .u32 0,.int .u32 0,.int .u32 0,.int .u32 0,.int .u32 0,.int .u32 0,.int .u32 0,.int .u32 0,.int .u32 0,.int .u32 0,.int .u32 0,.int .u32 0,.int .u32 0,.int .u32 0,.int .u32 0,.int .u32 0,.int .u32 0,.int .u32 0,.int .u32 0,.int .u32 0,.int .u32 0,.int .u32 0,.int .i64 0,.int .u32 0,.slice none 0 0,.int .i64 0] (A4 a mva) 26;have hb3:=hb2.trans (hr1.mono hb2.size);have HMA:=hid (hma.below hr1);have HOA:=hid hoa;have HLA:=hid hla;have HKA:=hid hr2;have HB3:=hid hb3;have hw2:w.heap.size<w2.heap.size:=by have:=hb2.size;omega
  have hrg:=HC.out _ hb3;have HR3:=hid (HR.out _ hb3);clear hb2 hma hoa hla hr1 hr2 hb3 HA HR;generalize(w2.alloc (.cells #[.int .u32 0,.int .u32 0,.int .u32 0,.int .u32 0,.int .u32 0,.int .u32 0,.int .u32 0,.int .u32 0,.int .u32 0,.int .u32 0,.int .u32 0,.int .u32 0,.int .u32 0,.int .u32 0,.int .u32 0,.int .u32 0,.int .u32 0,.int .u32 0,.int .u32 0,.int .u32 0,.int .u32 0,.int .u32 0,.int .u32 0,.int .u32 0,.int .u32 0,.int .u32 0,.int .u32 0,.int .u32 0,.int .u32 0,.int .u32 0,.int .u32 0,.int .u32 0,.int .i64 0,.int .u32 0,.slice none 0 0,.int .i64 0] 26)).setRow w2.heap.size (A4 a mva).toArray=W3 at*
  generalize w2.heap.size=A at*
  go_upto_region 5 with(first|(refine wpList_load_mid rfl _ _ rfl w.heap.size 0 rfl cs _ hrg underlying26 rfl hszm ?_)|((with_reducible refine(HR3.out).mono ?_);rintro e w4 ⟨⟨mvb,rfl,hmb,hob,-⟩,hb4⟩)|(refine wpList_store_row rfl _ _ _ rfl w4.heap.size (A4 a mvb).toArray rfl rfl 26 _ (N5 _ _ _) (P9 hob.rl _) (Q2 hob.rl _) (G5 hmb.isSlice) ?_))
  obtain⟨hr1,hr2,-⟩:=O5 w4 #[.int .u32 0,.int .u32 0,.int .u32 0,.int .u32 0,.int .u32 0,.int .u32 0,.int .u32 0,.int .u32 0,.int .u32 0,.int .u32 0,.int .u32 0,.int .u32 0,.int .u32 0,.int .u32 0,.int .u32 0,.int .u32 0,.int .u32 0,.int .u32 0,.int .u32 0,.int .u32 0,.int .u32 0,.int .u32 0,.int .u32 0,.int .u32 0,.int .u32 0,.int .u32 0,.int .u32 0,.int .u32 0,.int .u32 0,.int .u32 0,.int .u32 0,.int .u32 0,.int .i64 0,.int .u32 0,.slice none 0 0,.int .i64 0] (A4 a mvb) 26;have hb5:=hb4.trans (hr1.mono hb4.size);have hka:=HKA.out.below (by rw[B1 HOA.out.rl];decide) hb5;have HSM5:=hid (HSM.out mva mvb _ HOA.out HLA.out (HMA.out.below hb5) ((hmb.below hr1).ints (by have:=HLA.out;omega)));have HB5:=hid ((HB1.out.trans (HB3.out.mono (by omega))).trans (hb5.mono (by have:=HB3.out.size;omega)));have hw4:w.heap.size<w4.heap.size:=by have:=HB5.out.size;have:=hb4.size;have:=HB3.out.size;omega
  have hA4:A<w4.heap.size:=by have:=hb4.size;omega
  have hrga:=hka.range;have hrgb:=hr2.range;have hsa:=I3 HOA.out.rl mva;have hsb:=I3 HOA.out.rl mvb;clear hb4 hmb hob hr1 hr2 hb5 hka HR3 hrg HSM;generalize(w4.alloc (.cells #[.int .u32 0,.int .u32 0,.int .u32 0,.int .u32 0,.int .u32 0,.int .u32 0,.int .u32 0,.int .u32 0,.int .u32 0,.int .u32 0,.int .u32 0,.int .u32 0,.int .u32 0,.int .u32 0,.int .u32 0,.int .u32 0,.int .u32 0,.int .u32 0,.int .u32 0,.int .u32 0,.int .u32 0,.int .u32 0,.int .u32 0,.int .u32 0,.int .u32 0,.int .u32 0,.int .u32 0,.int .u32 0,.int .u32 0,.int .u32 0,.int .u32 0,.int .u32 0,.int .i64 0,.int .u32 0,.slice none 0 0,.int .i64 0] 26)).setRow w4.heap.size (A4 a mvb).toArray=W5 at*
  generalize w4.heap.size=Bb at*
  obtain⟨csa,hcsa⟩:∃l,A4 a mva=l:=⟨_,rfl⟩
  obtain⟨csb,hcsb⟩:∃l,A4 a mvb=l:=⟨_,rfl⟩
  rw[hcsa]at hrga hsa HSM5;rw[hcsb]at hrgb hsb HSM5;clear hcsa hcsb HKA HMA HOA HLA HB3;go_upto_region 60 with(first|(refine wp_load_mid _ _ rfl A 0 rfl csa _ hrga underlying26 rfl hsa ?_;go_frame)|(refine wp_load_mid _ _ rfl Bb 0 rfl csb _ hrgb underlying26 rfl hsb ?_;go_frame)|((with_reducible refine(HSM5.out).mono ?_);rintro e w9 ⟨rfl,hb9⟩)|(go_at_call 6;with_reducible refine(T7 _).mono ?_;rintro e wk ⟨rfl,hbk⟩))
  go_ret;exact⟨rfl,(HB5.out.trans (hb9.mono (by have:=HB5.out.size;omega))).trans (hbk.mono (by have:=hb9.size;have:=HB5.out.size;omega))⟩
end Go.Proofs.YtdojafpjipcbjaaGreat
