/- -/
import Derived.Test.YtdojafpjipcbjaaGreatRows
import Derived.WalkKit
import Derived.ProofKit
import Derived.OpenShut
import Derived.Below
import Derived.ChangeSame
import Derived.Lib.SmallJoins
import Derived.Deep.Slices
import Derived.SizedLaws
import Derived.DataReads
import Derived.ChangeSlices
import Derived.Test.YtdojafpjipcbjaaGreatK1
import Derived.Test.YtdojafpjipcbjaaGreatK12
import Derived.Test.YtdojafpjipcbjaaGreatK13
import Derived.Test.YtdojafpjipcbjaaGreatK36
open Go.Proofs.Tryz
open Go.Lib (hid)
set_option maxHeartbeats 1000000
set_option maxRecDepth 100000
namespace Go.Proofs.YtdojafpjipcbjaaGreat
open Go.RowKit
set_option linter.unusedVariables false
set_option linter.unusedSimpArgs false
theorem A3s(c:Mac)(mv:Value)(w:World)(ho:MOk c)(hm:Ints .u8 w mv c.m):Calls prog 3 #[.agg (A4 c mv).toArray] w fun e w'=>e= .returned (.bool true)∧Below w.heap.size w w':=by
 have hlen:=B1 ho.rl mv;obtain⟨hb1,k0⟩:=M9 w (A4 c mv) 26;have hv1:=hm.stays hb1;obtain⟨W1,hW1⟩:∃W,w.alloc (.cells (A4 c mv).toArray 26)=W:=⟨_,rfl⟩
 have hs1:W1.heap.size=w.heap.size+1:=by rw[←hW1];simp
 rw[hW1]at hb1 k0 hv1;obtain⟨-,-,⟨c34,-⟩,-⟩:=k0.tails ho.rl;obtain⟨va,vc,hmv,hl1,hl2⟩:=hm.shape;by_cases h1:70000<c.m.length
 ·rw[hmv]at c34;have HB1:=hid hb1;have d1:decide ((70000:Int)<(c.m.length:Int))=true:=decide_eq_true (by omega);generalize A4 c mv=cs at*
  clear k0 hv1 hb1 hlen hm hmv hl2 ho h1;go_enter func3,ntmps3;go_wp2_with(go_at_call 6;with_reducible refine(T7 _).mono ?_;rintro e wk ⟨rfl,hbk⟩)
  go_ret;exact⟨rfl,HB1.out.trans (hbk.mono (by omega))⟩
 have d1:decide ((70000:Int)<(c.m.length:Int))=false:=decide_eq_false (by omega);have HB1:=hid hb1;have HV1:=hid hv1;have HK0:=hid k0;have HO:=hid ho;have HLE:=hid (show c.m.length≤100000 by omega);have HMV:=hid hmv;have CCP:=hid (l8 c mv W1 ho hv1 (by omega));have hrg:=k0.range;have hszm:=I3 ho.rl mv;have HST:=hid (fun(c':Mac) (v:Value) (wk:World) (ho:MOk c') (hv:Ints .u8 wk v c'.m)=>A5O c' v wk ho hv);have HRS:=hid (fun(c':Mac) (v:Value) (wk:World) (ho:MOk c') (hv:Ints .u8 wk v c'.m)=>A2t c' v wk ho hv);rw[hmv]at c34;obtain⟨cs,hcs⟩:∃cs,A4 c mv=cs:=⟨_,rfl⟩
 have HCS:=hid hcs;have HLN:=hid hlen;rw[hcs]at hW1 hrg hszm CCP⊢;clear k0 hb1 hlen hv1 ho hm hmv hcs h1 hl1 hl2;go_enter func3,ntmps3;go_upto_region 3 with fail
 clear hW1;go_upto_region 4 with(first|(refine wpList_load_mid rfl _ _ rfl w.heap.size 0 rfl cs _ hrg underlying26 rfl hszm ?_)|((with_reducible refine(CCP.out).mono ?_);rintro e w2 ⟨mvo,rfl,hmo,hb2⟩)|(refine wpList_store_row rfl _ _ _ rfl w2.heap.size (A4 c mvo).toArray rfl rfl 26 _ (N5 _ _ _) (P9 HO.out.rl _) (Q2 HO.out.rl _) (G5 hmo.isSlice) ?_))
 obtain⟨hr1,hr2,hr3⟩:=O5 w2 #[.int .u32 0,.int .u32 0,.int .u32 0,.int .u32 0,.int .u32 0,.int .u32 0,.int .u32 0,.int .u32 0,.int .u32 0,.int .u32 0,.int .u32 0,.int .u32 0,.int .u32 0,.int .u32 0,.int .u32 0,.int .u32 0,.int .u32 0,.int .u32 0,.int .u32 0,.int .u32 0,.int .u32 0,.int .u32 0,.int .u32 0,.int .u32 0,.int .u32 0,.int .u32 0,.int .u32 0,.int .u32 0,.int .u32 0,.int .u32 0,.int .u32 0,.int .u32 0,.int .i64 0,.int .u32 0,.slice none 0 0,.int .i64 0] (A4 c mvo) 26;have hb3:=hb2.trans (hr1.mono hb2.size);have HV4:=hid (HV1.out.stays hb3);have HK4:=hid (HK0.out.below (by rw[HLN.out];decide) hb3);have HVO:=hid ((hmo.below hr1).ints HLE.out);have HB4:=hid (HB1.out.trans (hb3.mono (by omega)));have hO:w.heap.size<w2.heap.size:=by have:=hb2.size;omega
 clear hb2 hmo hr1 hb3 CCP hrg HV1 HK0 c34;generalize(w2.alloc (.cells #[.int .u32 0,.int .u32 0,.int .u32 0,.int .u32 0,.int .u32 0,.int .u32 0,.int .u32 0,.int .u32 0,.int .u32 0,.int .u32 0,.int .u32 0,.int .u32 0,.int .u32 0,.int .u32 0,.int .u32 0,.int .u32 0,.int .u32 0,.int .u32 0,.int .u32 0,.int .u32 0,.int .u32 0,.int .u32 0,.int .u32 0,.int .u32 0,.int .u32 0,.int .u32 0,.int .u32 0,.int .u32 0,.int .u32 0,.int .u32 0,.int .u32 0,.int .u32 0,.int .i64 0,.int .u32 0,.slice none 0 0,.int .i64 0] 26)).setRow w2.heap.size (A4 c mvo).toArray=W4 at*
 generalize w2.heap.size=O at*
 have HKO:=hid hr2;have hO4:O<W4.heap.size:=by omega
 have hw4:w.heap.size<W4.heap.size:=by omega
 have HST4:=hid (HST.out c mvo W4 HO.out HVO.out);have hrg:=HKO.out.range;have hszo:=I3 HO.out.rl mvo;obtain⟨cso,hcso⟩:∃l,A4 c mvo=l:=⟨_,rfl⟩
 have HCSO:=hid hcso;rw[hcso]at hrg hszo HST4;clear hr2 hcso hr3;go_upto_region 5 with(first|(refine wpList_load_mid rfl _ _ rfl O 0 rfl cso _ hrg underlying26 rfl hszo ?_)|((with_reducible refine(HST4.out).mono ?_);rintro e w5 ⟨⟨mva,rfl,hma,hoa,hla⟩,hb5⟩)|(refine wpList_store_row rfl _ _ _ rfl w5.heap.size (A4 (I9 c).1 mva).toArray rfl rfl 26 _ (N5 _ _ _) (P9 hoa.rl _) (Q2 hoa.rl _) (G5 hma.isSlice) ?_))
 obtain⟨hr1,hr2,hr3⟩:=O5 w5 #[.int .u32 0,.int .u32 0,.int .u32 0,.int .u32 0,.int .u32 0,.int .u32 0,.int .u32 0,.int .u32 0,.int .u32 0,.int .u32 0,.int .u32 0,.int .u32 0,.int .u32 0,.int .u32 0,.int .u32 0,.int .u32 0,.int .u32 0,.int .u32 0,.int .u32 0,.int .u32 0,.int .u32 0,.int .u32 0,.int .u32 0,.int .u32 0,.int .u32 0,.int .u32 0,.int .u32 0,.int .u32 0,.int .u32 0,.int .u32 0,.int .u32 0,.int .u32 0,.int .i64 0,.int .u32 0,.slice none 0 0,.int .i64 0] (A4 (I9 c).1 mva) 26;have hb6:=hb5.trans (hr1.mono hb5.size);have hma6:=hma.below hr1;have hA:W4.heap.size≤w5.heap.size:=hb5.size;have HAN:=hid (fun k (e:mva.ownBlock=some k)=>(hma.own k e).2);have HOA:=hid hoa;have HLA:=hid hla;clear hb5 hma hoa hla hr1 HST4 hrg;generalize(w5.alloc (.cells #[.int .u32 0,.int .u32 0,.int .u32 0,.int .u32 0,.int .u32 0,.int .u32 0,.int .u32 0,.int .u32 0,.int .u32 0,.int .u32 0,.int .u32 0,.int .u32 0,.int .u32 0,.int .u32 0,.int .u32 0,.int .u32 0,.int .u32 0,.int .u32 0,.int .u32 0,.int .u32 0,.int .u32 0,.int .u32 0,.int .u32 0,.int .u32 0,.int .u32 0,.int .u32 0,.int .u32 0,.int .u32 0,.int .u32 0,.int .u32 0,.int .u32 0,.int .u32 0,.int .i64 0,.int .u32 0,.slice none 0 0,.int .i64 0] 26)).setRow w5.heap.size (A4 (I9 c).1 mva).toArray=W6 at*
 obtain⟨A,hAe⟩:∃A,w5.heap.size=A:=⟨_,rfl⟩
 rw[hAe]at hr2 hr3 hA⊢;simp only[hAe]at HAN;clear hAe;have HMA:=hid hma6;have HKA:=hid hr2;have HB6:=hid hb6;have hrg:=(HK4.out.below (by rw[HLN.out];decide) hb6).range;have hw6:w.heap.size<W6.heap.size:=by omega
 rw[HCS.out]at hrg;have HRS6:=hid (HRS.out c mv W6 HO.out (HV4.out.stays hb6));rw[HCS.out]at HRS6;clear hr2 hb6 hma6;go_upto_region 6 with(first|(refine wpList_load_mid rfl _ _ rfl w.heap.size 0 rfl cs _ hrg underlying26 rfl hszm ?_)|((with_reducible refine(HRS6.out).mono ?_);rintro e w7 ⟨⟨mvb,rfl,hmb,hob,-⟩,hb7⟩)|(refine wpList_store_row rfl _ _ _ rfl w7.heap.size (A4 (I9 c).1 mvb).toArray rfl rfl 26 _ (N5 _ _ _) (P9 hob.rl _) (Q2 hob.rl _) (G5 hmb.isSlice) ?_))
 obtain⟨hr1,hr2,-⟩:=O5 w7 #[.int .u32 0,.int .u32 0,.int .u32 0,.int .u32 0,.int .u32 0,.int .u32 0,.int .u32 0,.int .u32 0,.int .u32 0,.int .u32 0,.int .u32 0,.int .u32 0,.int .u32 0,.int .u32 0,.int .u32 0,.int .u32 0,.int .u32 0,.int .u32 0,.int .u32 0,.int .u32 0,.int .u32 0,.int .u32 0,.int .u32 0,.int .u32 0,.int .u32 0,.int .u32 0,.int .u32 0,.int .u32 0,.int .u32 0,.int .u32 0,.int .u32 0,.int .u32 0,.int .i64 0,.int .u32 0,.slice none 0 0,.int .i64 0] (A4 (I9 c).1 mvb) 26;have hb8:=hb7.trans (hr1.mono hb7.size);have hKA8:=HKA.out.below (by rw[B1 HOA.out.rl];decide) hb8;have HMA8:=hid (HMA.out.below hb8);have hva:=HMA8.out.ints (by have:=HLA.out;omega);have hvb:=(hmb.below hr1).ints (by have:=HLA.out;omega);have HB8:=hid (HB6.out.trans (hb8.mono (by omega)));have hA8:A<w7.heap.size:=by have:=hb7.size;omega
 clear hb7 hmb hob hr1 hb8 HRS6 hrg HRS HST;generalize(w7.alloc (.cells #[.int .u32 0,.int .u32 0,.int .u32 0,.int .u32 0,.int .u32 0,.int .u32 0,.int .u32 0,.int .u32 0,.int .u32 0,.int .u32 0,.int .u32 0,.int .u32 0,.int .u32 0,.int .u32 0,.int .u32 0,.int .u32 0,.int .u32 0,.int .u32 0,.int .u32 0,.int .u32 0,.int .u32 0,.int .u32 0,.int .u32 0,.int .u32 0,.int .u32 0,.int .u32 0,.int .u32 0,.int .u32 0,.int .u32 0,.int .u32 0,.int .u32 0,.int .u32 0,.int .i64 0,.int .u32 0,.slice none 0 0,.int .i64 0] 26)).setRow w7.heap.size (A4 (I9 c).1 mvb).toArray=W8 at*
 generalize w7.heap.size=Bb at*
 have HSM:=hid (u6 (I9 c).1 mva mvb W8 HOA.out.rl hva hvb);have hrga:=hKA8.range;have hrgb:=hr2.range;have hsa:=I3 HOA.out.rl mva;have hsb:=I3 HOA.out.rl mvb;have HKA8:=hid hKA8;generalize hsr:(I9 c).2=r at*
 obtain⟨a,haa⟩:∃a,(I9 c).1=a:=⟨_,rfl⟩
 rw[haa]at HSM hrga hrgb hsa hsb HKA8 HMA8 HOA HLA;have HSM2:=HSM;clear hsr haa HKA HMA hKA8 hr2 hva hvb HB6;obtain⟨csa,hcsa⟩:∃l,A4 a mva=l:=⟨_,rfl⟩
 obtain⟨csb,hcsb⟩:∃l,A4 a mvb=l:=⟨_,rfl⟩
 have HCA:=hid hcsa;rw[hcsa]at hrga hsa HSM;rw[hcsb]at hrgb hsb HSM;clear hcsa hcsb HSM2;go_upto_region 8 with(first|(refine wp_load_mid _ _ rfl A 0 rfl csa _ hrga underlying26 rfl hsa ?_;go_frame)|(refine wp_load_mid _ _ rfl Bb 0 rfl csb _ hrgb underlying26 rfl hsb ?_;go_frame)|((with_reducible refine(HSM.out).mono ?_);rintro e w9 ⟨rfl,hb9⟩))
 have hma9:=HMA8.out.below hb9;have hka9:=HKA8.out.below (by rw[B1 HOA.out.rl];decide) hb9;have hs48:=HB8.out.size;have hb49:=HB8.out.trans (hb9.mono hs48);obtain⟨va2,vc2,hmva,hq1,hq2⟩:=(hma9.ints (by have:=HLA.out;omega)).shape;have HMVA:=hid hmva;clear hmva hb9 HSM hrga hrgb hsa hsb HMA8 HKA8 HB8 d1 hA8;generalize hn:a.m.length=n at*
 have HN:=hid hn;clear hn;have hM9:=hma9;go_wp2_with fail
 go_loopw[8] (fun i wr=>∃(j:Nat) (l:List Int),j≤n∧l.length=n∧i= .int .i64 j∧MemO W4.heap.size wr mva l∧CellsAt wr A (A4 a mva)∧Below W4.heap.size W4 wr) (fun i _=>n-(intOf i).toNat)
 case atStart=>exact⟨0,a.m,Nat.zero_le _,HN.out,rfl,hM9,hka9,hb49⟩
 case round=>
  obtain⟨j,l,hj,hl,rfl,hml,hkl,hbl⟩:=hrel;obtain⟨-,-,⟨e34,-⟩,-⟩:=hkl.tails HOA.out.rl;have hAr:A<wr.heap.size:=hkl.lt (by rw[B1 HOA.out.rl];decide);rw[HMVA.out]at e34;by_cases hlt:j<n
  ·rcases hml with⟨e0,_⟩|⟨D,cap,e1,g1,g2,g5,g6⟩
   ·rw[e0]at hl;simp at hl;omega
   ·have hDA:D<A:=HAN.out D (by rw[e1];rfl);have e2:=HMVA.out.symm.trans e1;injection e2 with e3 e4 e5
    subst e3 e5;have y0:=g6.cell (i:=j) (by omega);have yf:=g6.free (i:=j) (by omega);have hset:=g6.set (i:=j) (by omega) ((l.getD j 0+1)%256);have HM2:=hid (show MemO W4.heap.size (wr.setCell ⟨D,j,none⟩ (.int .u8 ((l.getD j 0+1)%256))) mva (l.set j ((l.getD j 0+1)%256))from Or.inr ⟨D,_,by rw[e1,List.length_set],by rw[List.length_set];exact g1,g2,g5,hset⟩);have HK2:=hid (hkl.other (b':=D) (k:=j) (by omega) (.int .u8 ((l.getD j 0+1)%256)));have HB2:=hid (hbl.setCell (p:=⟨D,j,none⟩) g5 (.int .u8 ((l.getD j 0+1)%256)));have HLL:=hid hl;have j0:(0:Int)≤(j:Int):=by omega
    have j1:(j:Int)<n:=by omega
    have hDr:D<wr.heap.size:=g6.1;generalize l.getD j 0=x at*
    clear hset hkl hbl g6 hl g1 e4;go_wp2_with fail
    go_roundw
    case rel=>exact⟨j+1,l.set j ((x+1)%256),by omega,by rw[List.length_set];exact HLL.out,by go_num,HM2.out,HK2.out,HB2.out⟩
    case measure=>simp[intOf];omega
  ·obtain rfl:j=n:=by omega
   have hko:=HKO.out.below (by rw[B1 HO.out.rl];decide) hbl;have hk0:=HK4.out.below (by rw[HLN.out];decide) hbl;have hrgo:=hko.range;have hrg:=hk0.range;rw[HCSO.out]at hrgo;rw[HCS.out]at hrg;have HSM:=hid (u6 c mvo mv wr HO.out.rl (HVO.out.stays hbl) (HV4.out.stays hbl));rw[HCSO.out,HCS.out]at HSM;have HBL:=hid (HB4.out.trans (hbl.mono (by omega)));have hwr:w.heap.size<wr.heap.size:=by have:=hbl.size;omega
   clear hko hk0 hml hkl hbl;go_wp2_with(first|(refine wpList_load_mid rfl _ _ rfl O 0 rfl cso _ hrgo underlying26 rfl hszo ?_)|(refine wpList_load_mid rfl _ _ rfl w.heap.size 0 rfl cs _ hrg underlying26 rfl hszm ?_)|((with_reducible refine(HSM.out).mono ?_);rintro e w13 ⟨rfl,hb13⟩)|(go_at_call 6;with_reducible refine(T7 _).mono ?_;rintro e wk ⟨rfl,hbk⟩))
   go_ret;exact⟨rfl,(HBL.out.trans (hb13.mono (by omega))).trans (hbk.mono (by have:=hb13.size;omega))⟩
end Go.Proofs.YtdojafpjipcbjaaGreat
namespace Go.Proofs.YtdojafpjipcbjaaGreat
open Go.RowKit Go.WideShapes Go.ChangeShapes
section
variable {H : Type} {enc : TypeId × Value → H} {P : Program}
theorem U5(hl:laidOutB P=true){W W':World}(hb:Below W.heap.size W W')(sp:Nat→Bool):∀(ts:List TypeId) (vs:List Value) (ds:List (DataW H)) (ps:List MemPlace),
  (∀t∈ts,P.readableRec t=true∧t<P.types.size)→DataW.TrodAll enc P W 0 (fun _=>true) true ts vs ds ps→(∀x∈ps,x.block<W.heap.size)→(∀p∈ps,sp p.block=true)→DataW.TrodAll enc P W' 0 sp true ts vs ds ps
 |[],vs,ds,ps,_,h,_,_=>by
  obtain⟨rfl,rfl,rfl⟩:=trodAll_nil h;exact trodAll_mk0
 |t::ts,vs,ds,ps,ht,h,hlt,hsp=>by
  obtain⟨v,vs',d,ds',p,q,rfl,rfl,rfl,h1,h2⟩:=trodAll_cons h;have h3:=ht t (List.mem_cons_self ..);exact trodAll_cons_mk (WideElems.Trod_stays hl h3.1 h3.2 h1 (fun x hx=>hb.same (hlt x (List.mem_append.2 (.inl hx)))) (fun x hx=>hsp x (List.mem_append.2 (.inl hx))))
   (U5 hl hb sp ts vs' ds' q (fun t' h'=>ht t' (List.mem_cons_of_mem _ h')) h2 (fun x hx=>hlt x (List.mem_append.2 (.inr hx))) (fun x hx=>hsp x (List.mem_append.2 (.inr hx))))
theorem A1d{f:Func}{s:ChangeSpec}{apart fresh handsOn again:Bool}{W W':World}{args:Array Value}{v:Value}{ds gs:List (DataW H)}{before pa pv:List MemPlace}
  (hW:DataW.Whole enc P f.params.toList s.vars apart W args.toList ds gs before)
  (hres:∀(b:Nat) (sp:Nat→Bool) (hd:Bool),DataW.TrodAll enc P W' b sp hd f.resultTypes.toList (v.resultList f.resultTypes.size) (s.fn H (ds++gs)).results [])
  (hargs:∀sp:Nat→Bool,(∀p∈before,sp p.block=true)→DataW.TrodAll enc P W' 0 sp true f.params.toList args.toList (s.fn H (ds++gs)).args pa)
  (hvars:∀sp:Nat→Bool,(∀p∈before,sp p.block=true)→DataW.TrodVars enc P W' sp s.vars (s.fn H (ds++gs)).vars pv)
  (hps:before=pa++pv) (hb:Below W.heap.size W W')
  (hok:∀(j:Nat) (t:TypeId) (r:Value),f.resultTypes[j]? =some t→(v.resultList f.resultTypes.size)[j]? =some r→Value.okWide P W' .any 0 t r):
  s.post enc P f apart fresh handsOn again W args v W':=by
 have hlt:∀p∈before,p.block<W.heap.size:=fun p hp=>hW.lt p hp
 have hold:∀p∈before,(fun b=>decide (b<W.heap.size)) p.block=true:=fun p hp=>by simpa using hlt p hp
 refine⟨ds,gs,before,[],pa,pv,hW,hres _ _ _,hargs _ hold,hvars _ hold,World.keptBut_mono (fun p hp=>⟨hp,?_⟩) (hb.frame (·∈before)),fun _=>?_⟩
 ·rw[hps,List.mem_append]at hp;exact Or.inr hp
 ·obtain⟨_,_,_,_,_,hz,hn⟩:=hW;refine⟨hok,_,_,([]++pa)++pv,⟨[]++pa,pv,trodAll_append (hargs _ (fun _ _=>rfl)) (hres _ _ _),hvars _ (fun _ _=>rfl),rfl,?_,?_⟩,?_⟩
  ·intro b off hp;have hin:MemPlace.cell b off∈before:=by rw[hps];simpa using hp
   rw[hb.frozen (hlt _ hin)];exact hz b off hin
  ·intro ha;have:=hn ha;rw[hps]at this;simpa using this
  ·intro p hp _;rw[hps];simpa using hp
theorem A0q{f:Func}{s:ChangeSpec}{apart fresh handsOn again:Bool}{W W':World}{args:Array Value}{ds gs:List (DataW H)}{before:List MemPlace}{tb:TypeId}
  (hl:laidOutB P=true) (hts:∀t∈f.params.toList,P.readableRec t=true∧t<P.types.size) (hres:f.resultTypes=#[tb]) (htb:P.underlying tb=some .bool) (hv:s.vars=[])
  (hW:DataW.Whole enc P f.params.toList s.vars apart W args.toList ds gs before) (hfn:s.fn H (ds++gs)={results:=[.lit (.bool true)],args:=ds}) (hb:Below W.heap.size W W'):
  s.post enc P f apart fresh handsOn again W args (.bool true) W':=by
 have hW2:=hW;obtain⟨p,q,hA,hV,rfl,_,_⟩:=hW2;rw[hv]at hV;obtain⟨rfl,rfl⟩:=trodVars_none hV;refine A1d (pa:=p) (pv:=[]) hW (fun b sp hd=>?_) (fun sp hsp=>?_) (fun sp _=>?_) rfl hb (ok_one hres rfl (okWide_bool_mk htb _))
 ·rw[hfn,hres];exact trodAll_mk1 (shut_bool htb _)
 ·rw[hfn];exact U5 hl hb sp _ _ _ _ hts hA (fun x hx=>hW.lt x (List.mem_append.2 (.inl hx))) (fun x hx=>hsp x (List.mem_append.2 (.inl hx)))
 ·rw[hfn,hv]
  trivial
end
end Go.Proofs.YtdojafpjipcbjaaGreat
namespace Go.Proofs.YtdojafpjipcbjaaGreat
open Go.RowKit Go.WideShapes Go.ChangeShapes Go.Deep
set_option linter.unusedVariables false
set_option linter.unusedSimpArgs false
section
variable {H : Type} {enc : TypeId × Value → H} {P : Program} {W : World} {base : Nat} {held : Bool}
def t7(k:IntKind)(x:Int):Prop:=(Lit.int k x).wf=true
theorem A0a{t e:TypeId}{elems spare:List (DataW H)}(ht:P.underlying t=some (.slice e))(hb:1≤P.bytesOf e)(hw:∀n∈(DataW.slice elems spare).weights P t,n≤reachBytes):elems.length+spare.length≤140737488351232:=by
 have h:=hw ((elems.length+spare.length)*P.bytesOf e) (by simp[DataW.weights,ht]);have h2:elems.length+spare.length≤(elems.length+spare.length)*P.bytesOf e:=Nat.le_mul_of_pos_right _ hb;unfold reachBytes at h;omega
theorem B0S{t e:TypeId}{k:IntKind}{fuel:Nat}{cs:List Value}{d:DataW H}{ps:List MemPlace}(ht:P.underlying t=some (.slice e))(he:P.underlying e=some (.int k))(hc:P.cellsOf e=1)(hby:1≤P.bytesOf e)
  (h:DataW.trod enc P W base (fun _=>true) held fuel t cs=some (d,ps)) (hw:∀n∈d.weights P t,n≤reachBytes):∃v xs,cs=[v]∧Ints k W v xs∧∀x∈xs,t7 k x:=by
 rcases open_ints ht he hc h with⟨rfl,hx⟩|⟨a,len,cap,zs,rfl,hb,hl,hm,hz,hx,hcell,hwf⟩
 ·exact⟨_,[],rfl,⟨none,0,rfl,Nat.le_refl _,⟨by simp,by omega⟩,fun _=>rfl,fun i hi=>absurd hi (by simp)⟩,fun x hx=>by cases hx⟩
 ·simp only[if_true]at hz;simp only[Prod.mk.injEq]at hx;have hcap:cap≤140737488351232:=by
   rw[hx.1]at hw;have:=A0a ht hby hw;simp[lits]at this;omega
  have hlen:(zs.take len).length=len:=by rw[List.length_take];omega
  refine⟨_,zs.take len,rfl,⟨some a,cap,by rw[hlen],by omega,⟨by omega,by unfold maxLen at hm;omega⟩,(fun hh=>by cases hh),fun i hi=>?_⟩,fun x hx=>hwf x (List.mem_of_mem_take hx)⟩;rw[hlen]at hi;have hc0:=hcell i (by omega);have hs:=World.cell?_spot hc0;obtain⟨b,o,s⟩:=a;have hsp:s=none:=by
   by_cases e0:i=0
   ·subst e0;exact World.cell?_spot (hcell 0 (by omega))
   ·exact World.cell?_spot (hcell 0 (by omega))
  subst hsp;have e1:(⟨b,o,none⟩:Addr).add i=⟨b,o+i,none⟩:=by
   unfold Addr.add;by_cases e0:i=0
   ·rw[if_pos e0,e0];rfl
   ·rw[if_neg e0]
  rw[e1]at hc0;refine⟨b,o,rfl,F0 hc0,?_⟩;show W.cell? ⟨b,o+i*1,none⟩=_
  rw[Nat.mul_one,hc0,List.getD_eq_getElem?_getD,List.getD_eq_getElem?_getD,List.getElem?_take,if_pos hi]
theorem A0Z{fs:Array Field}{t:TypeId}{parts:List (DataW H)}(ht:P.underlying t=some (.struct fs)){i:Nat}{f:Field}{d:DataW H}(hf:fs[i]? =some f)(hd:parts[i]? =some d){n:Nat}(hn:n∈d.weights P f.type):n∈(DataW.agg parts).weights P t:=by
 have h1:(fs.toList.map (·.type))[i]? =some f.type:=by rw[List.getElem?_map];simp[hf]
 have:=DataW.weights_mem_each h1 hd n hn;simpa[DataW.weights,ht]using this
structure NodeTy(P:Program)(e ei:TypeId)(f0 f1 f2 f3 f4:Field):Prop where
 st:P.underlying e=some (.struct #[f0,f1,f2,f3,f4])
 o:f0.offset=0∧f1.offset=1∧f2.offset=2∧f3.offset=3∧f4.offset=4
 u0:P.underlying f0.type=some (.int .i64)
 u1:P.underlying f1.type=some (.int .i64)
 u2:P.underlying f2.type=some (.int .i64)
 u3:P.underlying f3.type=some (.slice ei)
 u4:P.underlying f4.type=some (.int .u32)
 ui:P.underlying ei=some (.int .i64)
 c:P.cellsOf f0.type=1∧P.cellsOf f1.type=1∧P.cellsOf f2.type=1∧P.cellsOf f3.type=1∧P.cellsOf f4.type=1∧P.cellsOf ei=1∧P.cellsOf e=5
 b:1≤P.bytesOf ei
theorem A1A{x:Int}(h:t7 .i64 x): -9223372036854775808≤x∧x≤9223372036854775807:=by simpa[t7,Lit.wf,IntKind.min,IntKind.max,IntKind.signed,IntKind.bits]using h
end
end Go.Proofs.YtdojafpjipcbjaaGreat
namespace Go.Proofs.YtdojafpjipcbjaaGreat
open Go.RowKit Go.WideShapes Go.ChangeShapes Go.Deep
set_option linter.unusedVariables false
set_option linter.unusedSimpArgs false
theorem A6V{x:Int}(h:t7 .u8 x):0≤x∧x<256:=by
 have:0≤x∧x≤255:=by simpa[t7,Lit.wf,IntKind.min,IntKind.max,IntKind.signed,IntKind.bits]using h
 omega
theorem A4u{l:List Int}(h:∀x∈l,t7 .u8 x):Byt l:=A9h fun b hb=>A6V (h b hb)
section
variable {H : Type} {enc : TypeId × Value → H} {P : Program} {W : World} {base : Nat} {held : Bool}
structure InsTy(P:Program)(e:TypeId)(f0 f1 f2 f3 f4:Field):Prop where
 st:P.underlying e=some (.struct #[f0,f1,f2,f3,f4])
 o:f0.offset=0∧f1.offset=1∧f2.offset=2∧f3.offset=3∧f4.offset=4
 u0:P.underlying f0.type=some (.int .i64)
 u1:P.underlying f1.type=some (.int .i64)
 u2:P.underlying f2.type=some (.int .i64)
 u3:P.underlying f3.type=some (.int .i64)
 u4:P.underlying f4.type=some (.int .i64)
 c:P.cellsOf f0.type=1∧P.cellsOf f1.type=1∧P.cellsOf f2.type=1∧P.cellsOf f3.type=1∧P.cellsOf f4.type=1∧P.cellsOf e=5
end
end Go.Proofs.YtdojafpjipcbjaaGreat
namespace Go.Proofs.YtdojafpjipcbjaaGreat
open Go.RowKit Go.WideShapes Go.ChangeShapes Go.Deep
set_option linter.unusedVariables false
set_option linter.unusedSimpArgs false
section
variable {H : Type} {enc : TypeId × Value → H} {P : Program} {W : World} {base : Nat} {held : Bool}
theorem X8{α:Type}{l:List α}{k:Nat}{v:α}(h:(l.drop k).take 1=[v]):l[k]? =some v:=by
 have:=congrArg (fun l:List α=>l[0]?) h;simpa[List.getElem?_take,List.getElem?_drop]using this
structure MacTy(P:Program)(e er eb:TypeId)(f0 f1 f2 f3 f4:Field):Prop where
 st:P.underlying e=some (.struct #[f0,f1,f2,f3,f4])
 o:f0.offset=0∧f1.offset=32∧f2.offset=33∧f3.offset=34∧f4.offset=35
 u0:P.underlying f0.type=some (.array 32 er)
 ur:P.underlying er=some (.int .u32)
 u1:P.underlying f1.type=some (.int .i64)
 u2:P.underlying f2.type=some (.int .u32)
 u3:P.underlying f3.type=some (.slice eb)
 ub:P.underlying eb=some (.int .u8)
 u4:P.underlying f4.type=some (.int .i64)
 c:P.cellsOf f0.type=32∧P.cellsOf f1.type=1∧P.cellsOf f2.type=1∧P.cellsOf f3.type=1∧P.cellsOf f4.type=1∧P.cellsOf e=36
 ce:P.cellsOf er=1∧P.cellsOf eb=1
 b:1≤P.bytesOf eb
theorem r5{x:Int}(h:(Lit.int .u32 x).wf=true):0≤x∧x<4294967296:=by
 have:=bounds_u32 h;omega
theorem A7K{e er eb:TypeId}{f0 f1 f2 f3 f4:Field}(T:MacTy P e er eb f0 f1 f2 f3 f4){r:Reach}{b0:Nat}{v:Value}{d:DataW H}{p:List MemPlace}(hv:Value.okWide P W r b0 e v)(h:DataW.Trod enc P W base (fun _=>true) held e v d p)(hw:∀n∈d.weights P e,n≤reachBytes):
  ∃(c:Mac) (mv:Value),v= .agg (A4 c mv).toArray∧c.r.length=32∧(∀k,0≤c.r.getD k 0∧c.r.getD k 0<4294967296)∧I64 c.f∧(0≤c.a∧c.a<4294967296)∧I64 c.e∧Ints .u8 W mv c.m∧Byt c.m:=by
 obtain⟨cs,rfl,hsz⟩:=okWide_struct T.st hv;obtain⟨fuel,hf⟩:=h;obtain⟨l⟩:=cs;have hf1:DataW.trod enc P W base (fun _=>true) held fuel e l=some (d,p):=hf;obtain⟨o0,o1,o2,o3,o4⟩:=T.o;obtain⟨k0,k1,k2,k3,k4,ke⟩:=T.c;obtain⟨kr,kb⟩:=T.ce;have hl:l.length=36:=by rw[←ke];simpa using hsz
 obtain⟨xs,n,_,hx,_,hn,hg⟩:=DataW.trod_struct T.st hf1
 match xs,hn with
 |[y0,y1,y2,y3,y4],_=>
 have g0:=hg 0 f0 rfl;have g1:=hg 1 f1 rfl;have g2:=hg 2 f2 rfl;have g3:=hg 3 f3 rfl;have g4:=hg 4 f4 rfl;rw[o0,k0]at g0;rw[o1,k1]at g1;rw[o2,k2]at g2;rw[o3,k3]at g3;rw[o4,k4]at g4;obtain⟨ys,m,_,_,_,hy,hr⟩:=DataW.trod_array T.u0 (show DataW.trod enc P W base (fun _=>true) held n f0.type ((l.drop 0).take 32)=some y0 from g0);obtain⟨n1,a1,_,w1⟩:=DataW.trod_int T.u1 (show DataW.trod enc P W base (fun _=>true) held n f1.type ((l.drop 32).take 1)=some y1 from g1);obtain⟨n2,a2,_,w2⟩:=DataW.trod_int T.u2 (show DataW.trod enc P W base (fun _=>true) held n f2.type ((l.drop 33).take 1)=some y2 from g2);obtain⟨n4,a4,_,w4⟩:=DataW.trod_int T.u4 (show DataW.trod enc P W base (fun _=>true) held n f4.type ((l.drop 35).take 1)=some y4 from g4);obtain⟨d3,p3⟩:=y3;simp only[Prod.mk.injEq]at hx;have hw3:∀n∈d3.weights P f3.type,n≤reachBytes:=fun n hn=>hw n (by rw[hx.1];exact A0Z T.st (i:=3) (f:=f3) rfl rfl hn)
 obtain⟨mv,ms,a3,hi3,hwf3⟩:=B0S T.u3 T.ub kb T.b (show DataW.trod enc P W base (fun _=>true) held n f3.type ((l.drop 34).take 1)=some (d3,p3)from g3) hw3;obtain⟨V,hV⟩:=choose_lt (α:=Int) (n:=32) (p:=fun i x=>l[i]? =some (.int .u32 x)∧(Lit.int .u32 x).wf=true) (fun i hi=>by
  have hri:=hr i hi;rw[kr]at hri;obtain⟨y,hy⟩:∃y,ys[i]? =some y:=⟨_,List.getElem?_eq_getElem (by omega)⟩
  rw[hy]at hri;obtain⟨z,az,_,wz⟩:=DataW.trod_int T.ur hri;have:=X8 az;rw[List.getElem?_take,if_pos (by omega)]at this;simp only[Nat.mul_one]at this;exact⟨z,by simpa using this,wz⟩)
 have hml:((List.range 32).map V).length=32:=by simp
 refine⟨⟨(List.range 32).map V,n1,n2,ms,n4⟩,mv,?_,hml,fun k=>?_,A1A w1,r5 w2,A1A w4,hi3,A4u hwf3⟩
 ·refine congrArg (fun l:List Value=>Value.agg l.toArray) (List.ext_getElem? fun i=>?_);show l[i]? =(((List.range 32).map V).map (Value.int .u32)++[.int .i64 n1,.int .u32 n2,mv,.int .i64 n4])[i]?
  by_cases hi:i<32
  ·rw[(hV i hi).1,List.getElem?_append_left (by simpa using hi),List.getElem?_map,List.getElem?_map,List.getElem?_range hi];rfl
  ·rw[List.getElem?_append_right (by simpa using hi)];simp only[List.length_map,List.length_range];by_cases h1:i=32
   ·subst h1;exact X8 a1
   by_cases h2:i=33
   ·subst h2;exact X8 a2
   by_cases h3:i=34
   ·subst h3;exact X8 a3
   by_cases h4:i=35
   ·subst h4;exact X8 a4
   rw[List.getElem?_eq_none (by omega),List.getElem?_eq_none (by simp;omega)]
 ·show 0≤((List.range 32).map V).getD k 0∧_
  by_cases hk:k<32
  ·rw[List.getD_eq_getElem?_getD,List.getElem?_map,List.getElem?_range hk];exact r5 (hV k hk).2
  ·rw[List.getD_eq_getElem?_getD,List.getElem?_eq_none (by simp;omega)];exact⟨by decide,by decide⟩
end
end Go.Proofs.YtdojafpjipcbjaaGreat
namespace Go.Proofs.YtdojafpjipcbjaaGreat
open Go.RowKit
set_option linter.unusedVariables false
set_option linter.unusedSimpArgs false
theorem A6B{p:Prop}(h:p:=by
 go_wp2_with(refine wpList_store_mid rfl _ _ _ rfl (w.heap.size+1) 0 (A4 G3 (.slice none 0 0)).toArray rfl rfl hthz hszz honez ?_)
 refine bodyPost_ret (v:=.tuple #[.agg (A4 G3 (.slice none 0 0)).toArray,.int .i64 0,.int .i64 1]) (A2r rfl rfl rfl rfl KZ.out underlying26 rfl HSZ0.out) rfl ?_;rw[HR.out,HRE.out];exact⟨⟨.slice none 0 0,rfl,Or.inl ⟨rfl,rfl⟩,g9,by decide⟩,BZ.out⟩
 ):p:=h
theorem B1H{p:Prop}(h:p:=by
 go_wp2_with(refine wpList_store_mid rfl _ _ _ rfl (w.heap.size+1) 0 (A4 G3 (.slice none 0 0)).toArray rfl rfl hthz hszz honez ?_)
 refine bodyPost_ret (v:=.tuple #[.agg (A4 G3 (.slice none 0 0)).toArray,.int .i64 0,.int .i64 9]) (A2r rfl rfl rfl rfl KZ.out underlying26 rfl HSZ0.out) rfl ?_;rw[HR.out,HRE.out];exact⟨⟨.slice none 0 0,rfl,Or.inl ⟨rfl,rfl⟩,g9,by decide⟩,BZ.out⟩
 ):p:=h
theorem B0w{p:Prop}(h:p:=by
 go_wp2_with fail
 go_roundw
 case rel=>exact⟨j,F3 c',by omega,by first|rfl|go_num,HD7.out,hid (by
  rw[HRUN.out,show K-j=(K-j-1)+1 by omega,A4J HE9.out H3.out,Z3 (by rw[H3.out];decide)])⟩
 case measure=>
  rw[Q35.out,K35.out];simp[intOf,e01]
 ):p:=h
def e01:Option Value→Nat
 |some (.int _ n)=>if n=0 then 1 else 0
 |_=>0
theorem A5D(v:Option Value):e01 v≤1:=by unfold e01;split<;>(try split)<;>omega
def U4(c:Mac):Mac:=if c.e=0 then{c with e:=4}else c
def L9(c:Mac)(k:Int):Mac×Int:=if K4 c k=0 then(U4 (K3 k.toNat c).1,(K3 k.toNat c).2)else(G3,0)
theorem Z3{c:Mac}(h:c.e≠0)(k:Nat):K3 k c=(c,0):=by cases k<;>simp[K3,h]
theorem A2M{c:Mac}{k:Nat}(h:c.e=0)(h3:(F3 c).e≠3):K3 (k+1) c=((K3 k (F3 c)).1,(K3 k (F3 c)).2+1):=by simp[K3,h,h3]
theorem A4J{c:Mac}{k:Nat}(h:c.e=0)(h3:(F3 c).e=3):K3 (k+1) c=(F3 c,0):=by simp[K3,h,h3]
theorem A2T(c:Mac)(k:Int):(N8 c=1∧K4 c k=1)∨(N8 c=0∧(k<0∨200000<k)∧K4 c k=1)∨(N8 c=0∧0≤k∧k≤200000∧c.e≠0∧K4 c k=9)∨(N8 c=0∧0≤k∧k≤200000∧c.e=0∧K4 c k=0∧c.m.length≤32768∧0≤c.f∧c.f≤15):=by
 unfold K4 N8;by_cases h:32768<c.m.length∨c.f<0∨15<c.f
 ·left;rw[if_pos h,if_pos (by omega)];exact⟨rfl,rfl⟩
 rw[if_neg h];by_cases h2:k<0∨200000<k
 ·right;left;rw[if_pos (by omega)];exact⟨rfl,h2,rfl⟩
 rw[if_neg (by omega)];by_cases he:c.e=0
 ·right;right;right;rw[if_pos he];exact⟨rfl,by omega,by omega,he,rfl,by omega,by omega,by omega⟩
 ·right;right;left;rw[if_neg he];exact⟨rfl,by omega,by omega,he,rfl⟩
theorem A7I(c:Mac)(mv:Value)(k:Int)(w:World)(ho:MOk c)(hm:Ints .u8 w mv c.m):Calls prog 11 #[.agg (A4 c mv).toArray,.int .i64 k] w fun e w'=>(∃mv',e= .returned (.tuple #[.agg (A4 (L9 c k).1 mv').toArray,.int .i64 (L9 c k).2,.int .i64 (K4 c k)])∧MemO w.heap.size w' mv' (L9 c k).1.m∧MOk (L9 c k).1∧(L9 c k).1.m.length≤32768)∧Below w.heap.size w w':=by
 have hsz:∀v,(prog.info? 26).map (·.size)=some (A4 c v).length:=fun v=>by rw[B1 ho.rl];kernel_rfl
 have hsz0:(prog.info? 26).map (·.size)=some (A4 G3 (.slice none 0 0)).length:=by rw[B1 rfl];kernel_rfl
 have hlen:=B1 ho.rl mv;obtain⟨k0,k1,hb1,hs1⟩:=O0 w (A4 c mv) (A4 G3 (.slice none 0 0)) 26 (by omega);rw[←c9]at k0 k1 hb1 hs1;have hv1:=hm.stays hb1;obtain⟨W1,hW1⟩:∃W,((w.alloc (.cells (A4 c mv).toArray 26)).alloc (.cells #[.int .u32 0,.int .u32 0,.int .u32 0,.int .u32 0,.int .u32 0,.int .u32 0,.int .u32 0,.int .u32 0,.int .u32 0,.int .u32 0,.int .u32 0,.int .u32 0,.int .u32 0,.int .u32 0,.int .u32 0,.int .u32 0,.int .u32 0,.int .u32 0,.int .u32 0,.int .u32 0,.int .u32 0,.int .u32 0,.int .u32 0,.int .u32 0,.int .u32 0,.int .u32 0,.int .u32 0,.int .u32 0,.int .u32 0,.int .u32 0,.int .u32 0,.int .u32 0,.int .i64 0,.int .u32 0,.slice none 0 0,.int .i64 0] 26))=W:=⟨_,rfl⟩
 rw[hW1]at k0 k1 hb1 hs1 hv1;have HCH:=hid (d7 c mv W1 ho.rl hv1);have HV1:=hid hv1;have HB1:=hid hb1;have HK0:=hid k0;have HK1:=hid k1;have HSZ0:=hid hsz0;have HO:=hid ho;have HSET:=hid (fun v=>k7 ho.rl mv v);have HM:=hid hm;have hszm:=hsz mv;have hrg:=k0.range;have hlt1:w.heap.size+1<W1.heap.size:=by omega
 have HMA:=hid (A2T c k);generalize hE:N8 c=E at*
 have HE:=hid hE;obtain⟨cs,hcs⟩:∃cs,A4 c mv=cs:=⟨_,rfl⟩
 have HCS:=hid hcs;have HLN:=hid hlen;rw[hcs]at hrg hszm HCH⊢;simp only[hcs]at hW1;clear k0 k1 hb1 hsz hsz0 hs1 hv1 ho hm hE hlen;go_enter func11,ntmps11;go_upto_region 2 with(first|(refine wpList_load_mid rfl _ _ rfl w.heap.size 0 rfl cs _ hrg underlying26 rfl hszm ?_)|((with_reducible refine(HCH.out).mono ?_);rintro e w2 ⟨rfl,hb2⟩))
 have K0:=HK0.out.below (by rw[HLN.out];decide) hb2;have K1:=HK1.out.below (by rw[B1 rfl];decide) hb2;have hb02:=HB1.out.trans (hb2.mono (by omega));have hv2:=HV1.out.stays hb2;have hlt2:w.heap.size+1<w2.heap.size:=Nat.lt_of_lt_of_le hlt1 hb2.size;obtain⟨-,-,⟨c34,f34⟩,⟨c35,f35⟩⟩:=K0.tails HO.out.rl;have hthz:=K1.there (ds:=A4 G3 (.slice none 0 0)) rfl;have hszz:(prog.info? 26).map (·.size)=some (A4 G3 (.slice none 0 0)).toArray.size:=by simpa using HSZ0.out
 have honez:=G5 (c:=G3) (mv:=.slice none 0 0) ⟨_,_,_,rfl⟩;have KZ:=hid (K1.setCells (ds:=A4 G3 (.slice none 0 0)) rfl);have BZ:=hid (E0 (b:=w.heap.size+1) (by omega) (A4 G3 (.slice none 0 0)) 0 w2 hb02);clear hW1 HCH hrg hszm;rcases HMA.out with⟨e,hR⟩|⟨e,hk,hR⟩|⟨e,hk0,hk1,he,hR⟩|⟨e,hk0,hk1,he,hR,hl,hf0,hf1⟩
 ·subst e;have HRE:=hid hR;have HR:=hid (show L9 c k=(G3,0)by unfold L9;rw[if_neg (by rw[hR];decide)]);clear hR K0 K1 hv2 c34 f34 c35 f35;exact A6B
 ·subst e;have HRE:=hid hR;have HR:=hid (show L9 c k=(G3,0)by unfold L9;rw[if_neg (by rw[hR];decide)]);clear hR K0 K1 hv2 c34 f34 c35 f35;by_cases hk2:k<0
  ·have d1:decide (k<0)=true:=decide_eq_true hk2;clear hk hk2;exact A6B
  have d1:decide (k<0)=false:=decide_eq_false hk2;have d2:decide (200000<k)=true:=decide_eq_true (by omega);clear hk hk2;exact A6B
 ·subst e;have HRE:=hid hR;have HR:=hid (show L9 c k=(G3,0)by unfold L9;rw[if_neg (by rw[hR];decide)]);have d1:decide (k<0)=false:=decide_eq_false (by omega);have d2:decide (200000<k)=false:=decide_eq_false (by omega);have d3:(c.e==0)=false:=by simpa using he
  clear hR he K0 K1 hv2 c34 f34 f35;exact B1H
 ·subst e;have HRE:=hid hR;obtain⟨K,rfl⟩:=Int.eq_ofNat_of_zero_le hk0;have HR:=hid (show L9 c K=(U4 (K3 K c).1,((K3 K c).2:Int))by unfold L9;rw[if_pos hR];rfl);have d1:decide ((K:Int)<0)=false:=decide_eq_false (by omega);have d2:decide (200000<(K:Int))=false:=decide_eq_false (by omega);rw[he]at c35;have HE0:=hid he;obtain⟨va,vc,hmv,hl1,hl2⟩:=HM.out.shape;rw[hmv]at c34 hv2;have HV2:=hid hv2;have HLE:=hid (show c.m.length≤100000 by omega);have hlt:w.heap.size<w2.heap.size:=by omega
  have HROW:=hid (RowI.nil w2 w2.heap.size 5 .u8);have HK02:=hid K0;have HK12:=hid K1;have HB02:=hid hb02;have hl':=hl;clear he hv2 K0 K1 hb02 hl1 hl2 hthz hszz KZ BZ hR;go_upto_region 9 with(at_builtin;go_must (refine A0R rfl _ _ rfl w2.heap.size _ [] rfl HROW.out _ c.m rfl HV2.out (by simpa using HLE.out) (Nat.le_refl _) ?_;intro v5 w5 hr5 hb5;have hr6:RowI w5 w2.heap.size 5 .u8 v5 c.m:=hr5;clear hr5;obtain⟨a5,k5,e5⟩:=hr6.shape;subst e5;have HR5:=hid hr6;clear hr6;have y34:w5.cell? ⟨w.heap.size,34,none⟩=some (.slice va c.m.length vc):=(hb5.cell (p:=⟨w.heap.size,34,none⟩) hlt).trans c34;have z34:w5.frozen? ⟨w.heap.size,34,none⟩=false:=(hb5.frozen (p:=⟨w.heap.size,34,none⟩) hlt).trans f34))
  have hcs0:0<(A4 c mv).length:=by rw[HLN.out];decide
  have K0:=(HK02.out.below hcs0 hb5).set (k:=34) (by rw[HLN.out];decide) (.slice a5 c.m.length k5);have K1:=(HK12.out.below (by rw[B1 rfl];decide) hb5).other (b':=w.heap.size) (k:=34) (by omega) (.slice a5 c.m.length k5);have hb6:=(HB02.out.trans (hb5.mono (by omega))).setCell (p:=⟨w.heap.size,34,none⟩) (Nat.le_refl _) (.slice a5 c.m.length k5);have hmm:=(HR5.out.memO.set (b:=w.heap.size) (j:=34) (by omega) (.slice a5 c.m.length k5))
  rw[HSET.out]at K0;have hs6:(w5.setCell ⟨w.heap.size,34,none⟩ (.slice a5 c.m.length k5)).heap.size=w5.heap.size:=by simp[World.setCell]
  have hs5:=hb5.size;have HOWN:Hid (∀k,(Value.slice a5 c.m.length k5).ownBlock=some k→w2.heap.size≤k):=hid (fun k hk=>(hmm.own k hk).1);generalize w5.setCell ⟨w.heap.size,34,none⟩ (.slice a5 c.m.length k5)=W6 at*
  have hMM:MM w.heap.size w.heap.size (.slice a5 c.m.length k5) c W6:=MM.of K0 (hmm.low (by omega)) (fun e=>by have:=HOWN.out _ e;omega) (Nat.le_refl _) HO.out hl' ⟨hf0,hf1⟩;have hds:DS w.heap.size w.heap.size (.slice a5 c.m.length k5) (A4 G3 (.slice none 0 0)) w c W6:=⟨hMM,K1,hb6,fun e=>by have:=HOWN.out _ e;omega,Nat.le_refl _,B1 rfl _⟩
  have HD6:=hid hds;clear K0 K1 hb6 hmm hs6 hs5 hMM y34 z34 c34 f34 c35 f35 hb5 HR5 HK02 HK12 hcs0 hds honez;go_wp2_with fail
  have HST:=hid (fun(c':Mac) (wk:World) (hk:MM w.heap.size w.heap.size (.slice a5 c.m.length k5) c' wk)=>A0c hk)
  go_loopw[8] (fun i wr=>∃(j:Nat) (c':Mac),j≤K∧i= .int .i64 j∧DS w.heap.size w.heap.size (.slice a5 c.m.length k5) (A4 G3 (.slice none 0 0)) w c' wr∧Hid (K3 K c=((K3 (K-j) c').1,(K3 (K-j) c').2+j))) (fun i wr=>2*(K-(intOf i).toNat)+e01 (wr.cell? ⟨w.heap.size,35,none⟩))
  case atStart=>exact⟨0,c,Nat.zero_le _,rfl,HD6.out,hid (by rw[Nat.sub_zero];rfl)⟩
  case round=>
   obtain⟨j,c',hj,rfl,hds,HRUN⟩:=hrel;have HDJ:=hid hds;obtain⟨k35,g35⟩:=hds.mm.tailAt 3 _ rfl;have hMr:=hds.mm.ltM;clear hds;by_cases he:c'.e=0
   ·rw[he]at k35;by_cases hlt:j<K
    ·have dj:decide ((j:Int)<(K:Int))=true:=decide_eq_true (by omega);have CST:=hid (HST.out c' wr HDJ.out.mm);have HE9:=hid he;have K35:=hid (show wr.cell? ⟨w.heap.size,35,none⟩=some (.int .i64 0)from k35);go_upto_region 12 with((with_reducible refine(CST.out).mono ?_);rintro e w7 ⟨rfl,hm7,hc7⟩)
     have HD7:=hid (HDJ.out.ch hm7 hc7);obtain⟨q35,-⟩:=hm7.tailAt 3 _ rfl;have hM7:=hm7.ltM;clear hm7 hc7 k35 g35 he dj;by_cases h3:(F3 c').e=3
     ·rw[h3]at q35;have H3:=hid h3;have Q35:=hid (show w7.cell? ⟨w.heap.size,35,none⟩=some (.int .i64 3)from q35);clear h3;exact B0w
     ·have d3:((F3 c').e==3)=false:=by simpa using h3
      have H3:=hid h3;clear h3;generalize(F3 c').e=e7 at q35 d3;go_wp2_with fail
      go_roundw
      case rel=>exact⟨j+1,F3 c',by omega,by go_num,HD7.out,hid (by
       rw[HRUN.out,show K-j=(K-(j+1))+1 by omega,A2M HE9.out H3.out];simp only;rw[Nat.add_assoc,Nat.add_comm 1 j])⟩
      case measure=>
       have h01:=A5D (w7.cell? ⟨w.heap.size,35,none⟩);simp only[intOf];omega
    ·obtain rfl:j=K:=by omega
     have dj:decide ((j:Int)<(j:Int))=false:=decide_eq_false (by omega);have HF:Hid (U4 (K3 j c).1={c' with e:=4}∧(K3 j c).2=j):=hid (by rw[HRUN.out,Nat.sub_self];exact⟨by show U4 c'=_;unfold U4;rw[if_pos he],by show 0+j=j;omega⟩);have HDF:=hid (HDJ.out.ch (HDJ.out.mm.setE 4) ((Ch.refl _ _ _ _).setM 35 (.int .i64 4)));clear he hlt;go_upto_region 16 with fail
     generalize wr.setCell ⟨w.heap.size,35,none⟩ (.int .i64 4)=W9 at*
     obtain⟨⟨z1,z2⟩,z3,hth,hk2⟩:=G9 (c:={c' with e:=4}) HDF.out.mm.rl HDF.out.slc HDF.out.k HDF.out.zl;have hrgE:=HDF.out.mm.m.range;have hBE:=HDF.out.mm.ltM;obtain⟨dsE,hdsE⟩:∃dsE,A4 {c' with e:=4} (.slice a5 c.m.length k5)=dsE:=⟨_,rfl⟩
     have HCE:=hid hdsE;rw[hdsE]at z1 z2 z3 hth hk2 hrgE;have HK2:=hid hk2;have HSZ1:=hid z1;clear hdsE hk2;go_wp2_with(first|(refine wpList_load_mid rfl _ _ rfl w.heap.size 0 rfl dsE _ hrgE underlying26 rfl z1 ?_)|(refine wpList_store_mid rfl _ _ _ rfl (w.heap.size+1) 0 dsE.toArray rfl rfl hth z2 z3 ?_))
     refine bodyPost_ret (v:=.tuple #[.agg dsE.toArray,.int .i64 (j:Int),.int .i64 0]) (A2r rfl rfl rfl rfl HK2.out underlying26 rfl HSZ1.out) rfl ?_;have hfin:=HDF.out.fin;have hlen9:=HDF.out.mm.ml;rw[HCE.out]at hfin;rw[HR.out,HRE.out,HF.out.1,HF.out.2];exact⟨⟨.slice a5 c.m.length k5,by rw[HCE.out],hfin.2.1.1,hfin.2.1.2.1,hlen9⟩,hfin.2.2⟩
   ·have de:(c'.e==0)=false:=by simpa using he
    have HF:Hid (U4 (K3 K c).1=c'∧(K3 K c).2=j):=hid (by rw[HRUN.out,Z3 he];exact⟨by show U4 c'=_;unfold U4;rw[if_neg he],by show 0+j=j;omega⟩);clear he;generalize c'.e=ee at k35 de;go_upto_region 16 with fail
    obtain⟨⟨z1,z2⟩,z3,hth,hk2⟩:=G9 (c:=c') HDJ.out.mm.rl HDJ.out.slc HDJ.out.k HDJ.out.zl;have hrgE:=HDJ.out.mm.m.range;have hBE:=HDJ.out.mm.ltM;obtain⟨dsE,hdsE⟩:∃dsE,A4 c' (.slice a5 c.m.length k5)=dsE:=⟨_,rfl⟩
    have HCE:=hid hdsE;rw[hdsE]at z1 z2 z3 hth hk2 hrgE;have HK2:=hid hk2;have HSZ1:=hid z1;clear hdsE hk2;go_wp2_with(first|(refine wpList_load_mid rfl _ _ rfl w.heap.size 0 rfl dsE _ hrgE underlying26 rfl z1 ?_)|(refine wpList_store_mid rfl _ _ _ rfl (w.heap.size+1) 0 dsE.toArray rfl rfl hth z2 z3 ?_))
    refine bodyPost_ret (v:=.tuple #[.agg dsE.toArray,.int .i64 (j:Int),.int .i64 0]) (A2r rfl rfl rfl rfl HK2.out underlying26 rfl HSZ1.out) rfl ?_;have hfin:=HDJ.out.fin;have hlen9:=HDJ.out.mm.ml;rw[HCE.out]at hfin;rw[HR.out,HRE.out,HF.out.1,HF.out.2];exact⟨⟨.slice a5 c.m.length k5,by rw[HCE.out],hfin.2.1.1,hfin.2.1.2.1,hlen9⟩,hfin.2.2⟩
end Go.Proofs.YtdojafpjipcbjaaGreat
