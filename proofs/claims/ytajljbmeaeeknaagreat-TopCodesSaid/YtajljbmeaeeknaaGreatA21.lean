/- -/
import Derived.Deep.QuietTactic
import Derived.BigRegion
import Derived.Laws.BitsAllLaws
import Derived.Test.YtajljbmeaeeknaaGreatA1
import Derived.Test.YtajljbmeaeeknaaGreatA2
import Derived.Test.YtajljbmeaeeknaaGreatA16
import Derived.Test.YtajljbmeaeeknaaGreatA20
open Go.Proofs.Tryz
open Go.Lib (hid)
set_option maxHeartbeats 1000000
set_option maxRecDepth 100000
namespace Go.Proofs.YtajljbmeaeeknaaGreat
open Go.RowKit Go.Maps
set_option linter.unusedVariables false
set_option linter.unusedSimpArgs false
theorem B1a{p:Prop}(h:p:=by
 go_wp2_with(first|(refine wpList_load_mid rfl _ _ rfl M 0 rfl dsE _ hrgE underlying48 rfl z1 ?_)|(refine wpList_store_mid rfl _ _ _ rfl (w.heap.size+1) 0 dsE.toArray rfl rfl hth z2 z3 ?_))
 refine bodyPost_ret (v:=.tuple #[.agg dsE.toArray,.int .i64 (j:Int),.int .i64 0]) (A3C rfl rfl rfl rfl HK2.out underlying48 rfl HSZ1.out) rfl ?_;have hfin:=HDF.out.fin;rw[HCE.out]at hfin;rw[HR.out,HF.out.1,HF.out.2];exact⟨⟨mv',by rw[HCE.out],hfin.1,HDF.out.vm.ok,HDF.out.vm.ml⟩,hfin.2⟩
 ):p:=h
def s5(c:Mac)(k:Int):Mac×Int:=if P7 c k=0 then(N6 (L0 k.toNat c).1,(L0 k.toNat c).2)else(K3,0)
theorem r7{c:Mac}{k:Int}(h:P7 c k=0):c.m.length≤32768∧0≤k∧k≤200000∧c.e=0:=by
 unfold P7 at h
 split at h
 ·exact absurd h (by decide)
 ·split at h
  ·exact absurd h (by decide)
  ·omega
theorem VM.ok{B M r:Nat}{mv:Value}{c:Mac}{w:World}(h:VM B M r mv c w):MOk c:=⟨h.rl,h.rb,h.ab,h.mb⟩
theorem VM.slc{B M r:Nat}{mv:Value}{c:Mac}{w:World}(h:VM B M r mv c w):∃a l k,mv= .slice a l k:=h.v.isSlice
theorem VM.range{B M r:Nat}{mv:Value}{c:Mac}{w:World}(h:VM B M r mv c w):w.rangeAt M 0 (B4 c mv):=fun j v hj=>by
 rw[Nat.zero_add];exact(h.m j v (by rw[List.getElem?_append_left (List.getElem?_eq_some_iff.1 hj).1];exact hj)).1
structure VS(b0 B M r:Nat)(mv:Value)(zs:List Value)(w:World)(c:Mac)(wk:World):Prop where
 vm:VM B M r mv c wk
 k:CellsAt wk (b0+1) zs
 b:Below b0 w wk
 bb:b0+1<B
 zl:zs.length=36
theorem VS.ch{b0 B M r:Nat}{mv:Value}{zs:List Value}{w:World}{c c':Mac}{wk wk':World}(h:VS b0 B M r mv zs w c wk)(hm:VM B M r mv c' wk')(hb:Below B wk wk'):VS b0 B M r mv zs w c' wk':=
 ⟨hm,h.k.block (hb.block _ h.bb),h.b.trans (hb.mono (by have:=h.bb;omega)),h.bb,h.zl⟩
theorem VS.setE{b0 B M r:Nat}{mv:Value}{zs:List Value}{w:World}{c:Mac}{wk:World}(h:VS b0 B M r mv zs w c wk)(e:Int):VS b0 B M r mv zs w {c with e:=e} (wk.setCell ⟨M,35,none⟩ (.int .i64 e)):=
 ⟨h.vm.setE e,h.k.other (by have:=h.vm.n4;have:=h.bb;omega) _,A6 h.b (by have:=h.vm.n4;have:=h.bb;omega) _ _,h.bb,h.zl⟩
theorem VS.fin{b0 B M r:Nat}{mv:Value}{zs:List Value}{w:World}{c:Mac}{wk:World}(h:VS b0 B M r mv zs w c wk):MemO b0 (wk.setCells (b0+1) 0 (B4 c mv)) mv c.m∧Below b0 w (wk.setCells (b0+1) 0 (B4 c mv)):=
 ⟨(h.vm.v.setCells h.bb _).low (by have:=h.bb;omega),F8 (by omega) _ 0 _ h.b⟩
theorem A5f(c:Mac)(mv:Value)(k:Int)(w:World)(ho:MOk c)(hm:Ints .u8 w mv c.m):Calls prog 52 #[.agg (B4 c mv).toArray,.int .i64 k] w fun e w'=>(∃mv',e= .returned (.tuple #[.agg (B4 (s5 c k).1 mv').toArray,.int .i64 (s5 c k).2,.int .i64 (P7 c k)])∧MemO w.heap.size w' mv' (s5 c k).1.m∧MOk (s5 c k).1∧(s5 c k).1.m.length≤32768)∧Below w.heap.size w w':=by
 have hsz:∀v,(prog.info? 48).map (·.size)=some (B4 c v).length:=fun v=>O6 ho.rl v
 have hsz0:(prog.info? 48).map (·.size)=some (B4 K3 (.slice none 0 0)).length:=O6 rfl _;have hlen:=B8 ho.rl mv;obtain⟨k0,k1,hb1,hs1⟩:=X5 w (B4 c mv) (B4 K3 (.slice none 0 0)) 48 (by omega);rw[←V4]at k0 k1 hb1 hs1;have hv1:=hm.stays hb1;obtain⟨W1,hW1⟩:∃W,((w.alloc (.cells (B4 c mv).toArray 48)).alloc (.cells #[.int .u32 0,.int .u32 0,.int .u32 0,.int .u32 0,.int .u32 0,.int .u32 0,.int .u32 0,.int .u32 0,.int .u32 0,.int .u32 0,.int .u32 0,.int .u32 0,.int .u32 0,.int .u32 0,.int .u32 0,.int .u32 0,.int .u32 0,.int .u32 0,.int .u32 0,.int .u32 0,.int .u32 0,.int .u32 0,.int .u32 0,.int .u32 0,.int .u32 0,.int .u32 0,.int .u32 0,.int .u32 0,.int .u32 0,.int .u32 0,.int .u32 0,.int .u32 0,.int .i64 0,.int .u32 0,.slice none 0 0,.int .i64 0] 48))=W:=⟨_,rfl⟩
 rw[hW1]at k0 k1 hb1 hs1 hv1;have HBG:=hid (A5Z c mv k W1 ho hv1);have HB1:=hid hb1;have HK1:=hid k1;have HSZ0:=hid hsz0;have hszm:=hsz mv;have hrg:=k0.range;have hlt1:w.heap.size+1<W1.heap.size:=by omega
 generalize hE:P7 c k=E at*
 have HE:=hid hE;obtain⟨cs,hcs⟩:∃cs,B4 c mv=cs:=⟨_,rfl⟩
 rw[hcs]at hrg hszm HBG⊢;simp only[hcs]at hW1;clear k0 k1 hb1 hsz hsz0 hs1 hv1 ho hm hE hlen hcs;go_enter func52,ntmps52;go_upto_region 1 with fail
 clear hW1;by_cases hE0:E=0
 ·subst hE0;obtain⟨hml,hk0,hk1,he0⟩:=r7 HE.out;obtain⟨K,rfl⟩:=Int.eq_ofNat_of_zero_le hk0;have HR:=hid (show s5 c K=(N6 (L0 K c).1,((L0 K c).2:Int))by unfold s5;rw[if_pos HE.out];rfl);have hnz:¬P7 c (K:Int)≠0:=fun h=>h HE.out
  go_upto_region 2 with(first|(refine wpList_load_mid rfl _ _ rfl w.heap.size 0 rfl cs _ hrg underlying48 rfl hszm ?_)|((with_reducible refine(HBG.out).mono ?_);rintro e w2 ⟨hb2,h2⟩;obtain⟨-,M,r,mv',rfl,hv2⟩:=h2.resolve_left (fun h=>hnz h.1);clear h2))
  have K1:=HK1.out.below (by rw[B8 rfl];decide) hb2;have HD:=hid (show VS w.heap.size W1.heap.size M r mv' (B4 K3 (.slice none 0 0)) w c w2 from⟨hv2,K1,HB1.out.trans (hb2.mono (by omega)),hlt1,B8 rfl _⟩);have hMs:M<w2.heap.size:=hv2.ltM;obtain⟨-,-,⟨y35,f35⟩,-⟩:=hv2.cells;rw[he0]at y35;clear K1 hb2 hv2 hrg hszm HBG he0 hml;go_wp2_with fail
  have HST:=hid (fun(c':Mac) (wk:World) (hk:VS w.heap.size W1.heap.size M r mv' (B4 K3 (.slice none 0 0)) w c' wk)=>A4J wk hk.vm (by have:=hk.vm.ltM;have:=hk.vm.n4;omega))
  go_loopw[9] (fun i wr=>∃(j:Nat) (c':Mac),j≤K∧i= .int .i64 j∧VS w.heap.size W1.heap.size M r mv' (B4 K3 (.slice none 0 0)) w c' wr∧Hid (L0 K c=((L0 (K-j) c').1,(L0 (K-j) c').2+j))) (fun i wr=>K-(intOf i).toNat)
  case atStart=>exact⟨0,c,Nat.zero_le _,rfl,HD.out,hid (by rw[Nat.sub_zero];rfl)⟩
  case round=>
   obtain⟨j,c',hj,rfl,hds,HRUN⟩:=hrel;have HDJ:=hid hds;obtain⟨-,-,⟨k35,g35⟩,-⟩:=hds.vm.cells;have hMr:=hds.vm.ltM;clear hds;by_cases he:c'.e=0
   ·rw[he]at k35;by_cases hlt:j<K
    ·have dj:decide ((j:Int)<(K:Int))=true:=decide_eq_true (by omega);have CST:=hid (HST.out c' wr HDJ.out);have HE9:=hid he;cases hst:G4 c' with
     |some c7=>
      rw[hst]at CST;have HS7:=hid hst;have hj1:IntKind.i64.wrap ((j:Int)+1)=(j:Int)+1:=(by rw[IntWalk.i64_left];exact IntWalk.wrap64_in _ ⟨by omega,by omega⟩)
      clear he hst;go_wp2_with((with_reducible refine(CST.out).mono ?_);rintro e w7 ⟨rfl,hm7,hc7⟩)
      go_roundw
      case rel=>exact⟨j+1,c7,by omega,by go_num,HDJ.out.ch hm7 hc7,hid (by
       rw[HRUN.out,show K-j=(K-(j+1))+1 by omega,i9 HE9.out HS7.out];simp only;rw[Nat.add_assoc,Nat.add_comm 1 j])⟩
      case measure=>simp only[intOf];omega
     |none=>
      rw[hst]at CST;have HF:Hid (N6 (L0 K c).1={c' with e:=3}∧(L0 K c).2=j):=hid (by
       rw[HRUN.out,show K-j=(K-j-1)+1 by omega,V0 HE9.out hst];exact⟨by show N6 _=_;unfold N6;rw[if_neg (show¬(3:Int)=0 by decide)],by show 0+j=j;omega⟩)
      clear he hst hj dj;go_upto_region 7 with((with_reducible refine(CST.out).mono ?_);rintro e w7 ⟨rfl,hm7,hc7⟩)
      have HDF:Hid (VS w.heap.size W1.heap.size M r mv' (B4 K3 (.slice none 0 0)) w {c' with e:=3} (w7.setCell ⟨M,35,none⟩ (.int .i64 3))):=hid ((HDJ.out.ch hm7 hc7).setE 3);have hM7:=hm7.ltM;obtain⟨-,-,⟨q35,p35⟩,-⟩:=hm7.cells;clear hm7 hc7 CST k35 g35;go_upto_region 11 with fail
      generalize w7.setCell ⟨M,35,none⟩ (.int .i64 3)=W9 at*
      obtain⟨⟨z1,z2⟩,z3,hth,hk2⟩:=J7 (c:={c' with e:=3}) HDF.out.vm.rl HDF.out.vm.slc HDF.out.k HDF.out.zl;have hrgE:=HDF.out.vm.range;have hBE:=HDF.out.vm.ltM;have hMb:M≠w.heap.size+1:=by have:=HDF.out.vm.n4;have:=HDF.out.bb;omega
      obtain⟨dsE,hdsE⟩:∃dsE,B4 {c' with e:=3} mv'=dsE:=⟨_,rfl⟩
      have HCE:=hid hdsE;rw[hdsE]at z1 z2 z3 hth hk2 hrgE;have HK2:=hid hk2;have HSZ1:=hid z1;clear hdsE hk2;exact B1a
    ·obtain rfl:j=K:=by omega
     have dj:decide ((j:Int)<(j:Int))=false:=decide_eq_false (by omega);have HF:Hid (N6 (L0 j c).1={c' with e:=4}∧(L0 j c).2=j):=hid (by rw[HRUN.out,Nat.sub_self];exact⟨by show N6 c'=_;unfold N6;rw[if_pos he],by show 0+j=j;omega⟩);have HDF:Hid (VS w.heap.size W1.heap.size M r mv' (B4 K3 (.slice none 0 0)) w {c' with e:=4} (wr.setCell ⟨M,35,none⟩ (.int .i64 4))):=hid (HDJ.out.setE 4);clear he hlt hj;go_upto_region 11 with fail
     generalize wr.setCell ⟨M,35,none⟩ (.int .i64 4)=W9 at*
     obtain⟨⟨z1,z2⟩,z3,hth,hk2⟩:=J7 (c:={c' with e:=4}) HDF.out.vm.rl HDF.out.vm.slc HDF.out.k HDF.out.zl;have hrgE:=HDF.out.vm.range;have hBE:=HDF.out.vm.ltM;have hMb:M≠w.heap.size+1:=by have:=HDF.out.vm.n4;have:=HDF.out.bb;omega
     obtain⟨dsE,hdsE⟩:∃dsE,B4 {c' with e:=4} mv'=dsE:=⟨_,rfl⟩
     have HCE:=hid hdsE;rw[hdsE]at z1 z2 z3 hth hk2 hrgE;have HK2:=hid hk2;have HSZ1:=hid z1;clear hdsE hk2;exact B1a
   ·have de:(c'.e==0)=false:=by simpa using he
    have HF:Hid (N6 (L0 K c).1=c'∧(L0 K c).2=j):=hid (by rw[HRUN.out,N7 he];exact⟨by show N6 c'=_;unfold N6;rw[if_neg he],by show 0+j=j;omega⟩);have HDF:=HDJ;clear he hj;generalize c'.e=ee at k35 de;go_upto_region 11 with fail
    obtain⟨⟨z1,z2⟩,z3,hth,hk2⟩:=J7 (c:=c') HDF.out.vm.rl HDF.out.vm.slc HDF.out.k HDF.out.zl;have hrgE:=HDF.out.vm.range;have hBE:=HDF.out.vm.ltM;have hMb:M≠w.heap.size+1:=by have:=HDF.out.vm.n4;have:=HDF.out.bb;omega
    obtain⟨dsE,hdsE⟩:∃dsE,B4 c' mv'=dsE:=⟨_,rfl⟩
    have HCE:=hid hdsE;rw[hdsE]at z1 z2 z3 hth hk2 hrgE;have HK2:=hid hk2;have HSZ1:=hid z1;clear hdsE hk2;exact B1a
 ·have HN:=hid hE0;have dE:(E !=0)=true:=by simpa using hE0
  clear hE0;go_upto_region 2 with(first|(refine wpList_load_mid rfl _ _ rfl w.heap.size 0 rfl cs _ hrg underlying48 rfl hszm ?_)|((with_reducible refine(HBG.out).mono ?_);rintro e w2 ⟨hb2,h2⟩;obtain rfl:e= .returned (.tuple #[.pointer none,.int .i64 E]):=(by rcases h2 with⟨-,h⟩|⟨h,-⟩;rw[HE.out]at h;exact h;exact absurd (HE.out.symm.trans h) HN.out);clear h2))
  have K1:=HK1.out.below (by rw[B8 rfl];decide) hb2;have hb02:=HB1.out.trans (hb2.mono (by omega));have hthz:=K1.there (ds:=B4 K3 (.slice none 0 0)) rfl;have hszz:(prog.info? 48).map (·.size)=some (B4 K3 (.slice none 0 0)).toArray.size:=by simpa using HSZ0.out
  have honez:=T2 (c:=K3) (mv:=.slice none 0 0) ⟨_,_,_,rfl⟩;have KZ:=hid (K1.setCells (ds:=B4 K3 (.slice none 0 0)) rfl);have BZ:=hid (F8 (b:=w.heap.size+1) (by omega) (B4 K3 (.slice none 0 0)) 0 w2 hb02);have HR:=hid (show s5 c k=(K3,0)by unfold s5;rw[if_neg (by rw[HE.out];exact HN.out)]);clear K1 hb02 hrg hszm HBG;go_wp2_with(refine wpList_store_mid rfl _ _ _ rfl (w.heap.size+1) 0 (B4 K3 (.slice none 0 0)).toArray rfl rfl hthz hszz honez ?_)
  refine bodyPost_ret (v:=.tuple #[.agg (B4 K3 (.slice none 0 0)).toArray,.int .i64 0,.int .i64 E]) (A3C rfl rfl rfl rfl KZ.out underlying48 rfl HSZ0.out) rfl ?_;rw[HR.out];exact⟨⟨.slice none 0 0,rfl,Or.inl ⟨rfl,rfl⟩,A0t,by decide⟩,BZ.out⟩
def K6:List Ins→List Int
 |[]=>[]
 |x::r=>K4 x++K6 r
theorem u5(a b:List Ins):K6 (a++b)=K6 a++K6 b:=by
 induction a with
 |nil=>rfl
 |cons x r ih=>simp only[List.cons_append,K6,ih,List.append_assoc]
theorem s4(a:List Ins)(x:Ins):K6 (a++[x])=K6 a++K4 x:=by rw[u5];simp[K6]
def m6(xs:List Ins):Prop:=∀x∈xs,okI x=true
theorem A7i{xs:List Ins}(h:m6 xs):∀b∈K6 xs,0≤b∧b<256:=by
 induction xs with
 |nil=>intro b hb;cases hb
 |cons x r ih=>
  intro b hb;simp only[K6,List.mem_append]at hb;rcases hb with hb|hb
  ·exact A5I (h x (List.mem_cons_self ..)) b hb
  ·exact ih (fun y hy=>h y (List.mem_cons_of_mem _ hy)) b hb
theorem A2h{xs:List Ins}(h:m6 xs):(K6 xs).length≤9*xs.length:=by
 induction xs with
 |nil=>exact Nat.le_refl _
 |cons x r ih=>
  have h1:=(l8 (h x (List.mem_cons_self ..))).2;have h2:=ih (fun y hy=>h y (List.mem_cons_of_mem _ hy));simp only[K6,List.length_append,List.length_cons];omega
/-! ### memory -/
def A7m(w:World)(b o:Nat)(x:Ins):Prop:=
 w.cell? ⟨b,o,none⟩=some (.int .i64 x.o)∧w.cell? ⟨b,o+1,none⟩=some (.int .i64 x.d)∧w.cell? ⟨b,o+2,none⟩=some (.int .i64 x.s)∧w.cell? ⟨b,o+3,none⟩=some (.int .i64 x.z)∧w.cell? ⟨b,o+4,none⟩=some (.int .i64 x.i)
def Ias(w:World)(v:Value)(xs:List Ins):Prop:=Slc w v xs.length 5 fun i b o=>A7m w b o (xs.getD i default)
theorem Ias.stays{w w':World}{v:Value}{xs:List Ins}(h:Ias w v xs)(hb:Below w.heap.size w w'):Ias w' v xs:=
 Slc.stays h hb fun _ _ _ hlt hc=>⟨A0 hb hlt hc.1,A0 hb hlt hc.2.1,A0 hb hlt hc.2.2.1,A0 hb hlt hc.2.2.2.1,A0 hb hlt hc.2.2.2.2⟩
theorem Ias.shape{w:World}{v:Value}{xs:List Ins}(h:Ias w v xs):∃a c,v= .slice a xs.length c∧xs.length≤c∧xs.length≤140737488351232:=by
 obtain⟨a,c,e,h1,h2,_⟩:=h;exact⟨a,c,e,h1,h2.1⟩
theorem Ias.at{w:World}{v:Value}{xs:List Ins}(h:Ias w v xs){j:Nat}(hj:j<xs.length):∃b q c,v= .slice (some ⟨b,q,none⟩) xs.length c∧xs.length≤c∧b<w.heap.size∧A7m w b (q+j*5) (xs.getD j default):=by
 obtain⟨a,c,e,h1,h2,h3,h4⟩:=h;obtain⟨b,q,rfl,h5,h6⟩:=h4 j hj;exact⟨b,q,c,e,h1,h5,h6⟩
def iaC(x:Ins):List Value:=[.int .i64 x.o,.int .i64 x.d,.int .i64 x.s,.int .i64 x.z,.int .i64 x.i]
def A0O:List Ins→List Value
 |[]=>[]
 |x::r=>iaC x++A0O r
theorem A4p(xs:List Ins)(x:Ins):A0O (xs++[x])=A0O xs++iaC x:=by
 induction xs with
 |nil=>simp[A0O]
 |cons y r ih=>simp only[List.cons_append,A0O,ih,List.append_assoc]
theorem A2E:∀(xs:List Ins) (i j:Nat),i<xs.length→j<5→(A0O xs)[i*5+j]? =(iaC (xs.getD i default))[j]?
 |[],i,j,h,_=>absurd h (Nat.not_lt_zero _)
 |x::r,0,j,_,hj=>by
  show(iaC x++A0O r)[0*5+j]? =_
  rw[List.getElem?_append_left (by simp[iaC];omega)];simp
 |x::r,i+1,j,h,hj=>by
  show(iaC x++A0O r)[(i+1)*5+j]? =_
  rw[List.getElem?_append_right (by simp[iaC];omega)];have e:(i+1)*5+j-(iaC x).length=i*5+j:=by simp[iaC];omega
  rw[e,A2E r i j (by simpa using h) hj];simp
def RowA(w:World)(base:Nat)(v:Value)(xs:List Ins):Prop:=w.ownsRow base 89 5 v xs.length (A0O xs)
theorem RowA.nil(w:World)(base:Nat):RowA w base (.slice none 0 0) []:=World.ownsRow_nil w base _ 5
theorem RowA.below{w w':World}{base:Nat}{v:Value}{xs:List Ins}(h:RowA w base v xs)(hb:Below w.heap.size w w'):RowA w' base v xs:=by
 obtain⟨h0,⟨e,h1⟩|⟨g,cap,cur,e,hb',hg,h1,h2,h3,h4⟩⟩:=h
 ·exact⟨h0,Or.inl ⟨e,h1⟩⟩
 ·have hlt:g<w.heap.size:=by
   rcases Nat.lt_or_ge g w.heap.size with h|h
   ·exact h
   ·rw[Array.getElem?_eq_none h]at hg;cases hg
  exact⟨h0,Or.inr ⟨g,cap,cur,e,hb',by rw[hb.block g hlt];exact hg,h1,h2,h3,h4⟩⟩
theorem RowA.ias{w:World}{base:Nat}{v:Value}{xs:List Ins}(h:RowA w base v xs)(hl:xs.length≤100000):Ias w v xs:=by
 obtain⟨h0,⟨e,h1⟩|⟨g,cap,cur,e,hb',hg,h1,h2,h3,h4⟩⟩:=h
 ·exact⟨none,0,by rw[e,h1],by omega,⟨by omega,by omega⟩,fun _=>rfl,fun i hi=>absurd hi (by omega)⟩
 ·have hlt:g<w.heap.size:=by
   rcases Nat.lt_or_ge g w.heap.size with h|h
   ·exact h
   ·rw[Array.getElem?_eq_none h]at hg;cases hg
  refine⟨some ⟨g,0,none⟩,cap,e,h1,⟨by omega,by unfold maxLen at h2;omega⟩,(fun hh=>by cases hh),fun i hi=>⟨g,0,rfl,hlt,?_⟩⟩;rw[Nat.zero_add];have cell:∀j,j<5→w.cell? ⟨g,i*5+j,none⟩=(iaC (xs.getD i default))[j]? :=by
   intro j hj;have e1:w.cell? ⟨g,i*5+j,none⟩=cur.toList[i*5+j]? :=by simp[World.cell?,hg]
   have e2:(cur.toList.take (xs.length*5))[i*5+j]? =cur.toList[i*5+j]? :=by rw[List.getElem?_take,if_pos (by omega)]
   rw[e1,←e2,h4];exact A2E xs i j hi hj
  exact⟨cell 0 (by omega),cell 1 (by omega),cell 2 (by omega),cell 3 (by omega),cell 4 (by omega)⟩
theorem RowA.shape{w:World}{base:Nat}{v:Value}{xs:List Ins}(h:RowA w base v xs):∃a c,v= .slice a xs.length c:=by
 obtain⟨h0,⟨e,h1⟩|⟨g,cap,cur,e,_⟩⟩:=h
 ·exact⟨none,0,by rw[e,h1]⟩
 ·exact⟨_,_,e⟩
theorem A7g{l:List Int}(h:∀b∈l,0≤b∧b<256):Byt l:=fun k=>by
 rcases Nat.lt_or_ge k l.length with hk|hk
 ·rw[List.getD_eq_getElem?_getD,List.getElem?_eq_getElem hk];exact h _ (List.getElem_mem hk)
 ·rw[List.getD_eq_getElem?_getD,List.getElem?_eq_none hk];decide
def O7:Nat→List Int→List Ins×Nat
 |0,_=>([],0)
 |k+1,b=>match S8 b with
  |none=>([],0)
  |some (x,n)=>(x::(O7 k (b.drop n)).1,n+(O7 k (b.drop n)).2)
theorem T4{k:Nat}{b:List Int}(h:S8 b=none):O7 k b=([],0):=by
 cases k with
 |zero=>rfl
 |succ k=>simp[O7,h]
theorem T3{k:Nat}{b:List Int}{x:Ins}{n:Nat}(h:S8 b=some (x,n)):O7 (k+1) b=(x::(O7 k (b.drop n)).1,n+(O7 k (b.drop n)).2):=by simp[O7,h]
theorem A1P{b:List Int}{x:Ins}{n:Nat}(h:S8 b=some (x,n)):okI x=true∧0<n∧n≤9∧n≤b.length∧K4 x=b.take n:=by
 obtain⟨h1,h2,h3,h4⟩:=A4D h;have:=l8 h1;exact⟨h1,by omega,by omega,h2,h3⟩
theorem A1x:∀(k:Nat) (b:List Int),b.length<k→m6 (O7 k b).1∧(O7 k b).2≤b.length∧K6 (O7 k b).1=b.take (O7 k b).2∧S8 (b.drop (O7 k b).2)=none∧(O7 k b).1.length≤(O7 k b).2
 |0,b,h=>absurd h (Nat.not_lt_zero _)
 |k+1,b,h=>by
  rcases hd:S8 b with _|⟨x,n⟩
  ·rw[T4 hd];exact⟨fun x hx=>(by cases hx),Nat.zero_le _,rfl,hd,Nat.zero_le _⟩
  ·obtain⟨h1,h2,h3,h4,h5⟩:=A1P hd;obtain⟨i1,i2,i3,i4,i5⟩:=A1x k (b.drop n) (by rw[List.length_drop];omega);rw[List.length_drop]at i2;rw[T3 hd];refine⟨fun y hy=>?_,by simp only;omega,?_,?_,?_⟩
   ·rcases List.mem_cons.1 hy with rfl|hy
    ·exact h1
    ·exact i1 y hy
   ·simp only[K6,i3,h5];rw[List.take_add]
   ·simp only;rw[←List.drop_drop];exact i4
   ·simp only[List.length_cons];omega
theorem A1y:∀(xs:List Ins) (k:Nat),m6 xs→xs.length<k→O7 k (K6 xs)=(xs,(K6 xs).length)
 |[],k,_,_=>T4 (by decide)
 |x::r,0,_,h=>absurd h (Nat.not_lt_zero _)
 |x::r,k+1,ha,h=>by
  have hx:=ha x (List.mem_cons_self ..);have hd:=A7a hx (K6 r);rw[show K6 (x::r)=K4 x++K6 r from rfl,T3 hd,List.drop_left,A1y r k (fun y hy=>ha y (List.mem_cons_of_mem _ hy)) (by simp at h;omega),List.length_append]
theorem A0Z:∀(k:Nat) (b:List Int),b.length<k→O7 (k+1) b=O7 k b
 |0,b,h=>absurd h (Nat.not_lt_zero _)
 |k+1,b,h=>by
  rcases hd:S8 b with _|⟨x,n⟩
  ·rw[T4 hd,T4 hd]
  ·obtain⟨h1,h2,h3,h4,h5⟩:=A1P hd;rw[T3 hd,T3 hd,A0Z k (b.drop n) (by rw[List.length_drop];omega)]
end Go.Proofs.YtajljbmeaeeknaaGreat
namespace Go.Proofs.YtajljbmeaeeknaaGreat
open Go.RowKit
set_option linter.unusedVariables false
set_option linter.unusedSimpArgs false
theorem B0B{p:Prop}(h:p:=by
 refine h.m d _ ?_;have hd':d<c.r.length:=by rw[h.rl];exact hd
 unfold B4;rw[List.getElem?_append_left (by simpa using hd'),List.getElem?_map,List.getElem?_eq_getElem hd',List.getD_eq_getElem?_getD,List.getElem?_eq_getElem hd'];rfl
 ):p:=h
def B3B(base T M:Nat)(w:World)(mv:Value)(m:List Int):Prop:=
 (m=[]∧mv= .slice none 0 0)∨∃D cap,mv= .slice (some ⟨D,0,none⟩) m.length cap∧m.length≤cap∧cap≤9223372036854775807∧D≠T∧D≠M∧base≤D∧OInts .u8 w D m
structure Ch(T M:Nat)(mv:Value)(w w':World):Prop where
 os:w'.os=w.os
 tape:w'.tape=w.tape
 output:w'.output=w.output
 size:w.heap.size≤w'.heap.size
 block:∀k,k<w.heap.size→k≠T→k≠M→mv.ownBlock≠some k→w'.heap[k]? =w.heap[k]?
namespace Ch
variable {T M : Nat} {mv : Value} {w w' w2 : World}
theorem refl(T M:Nat)(mv:Value)(w:World):Ch T M mv w w:=⟨rfl,rfl,rfl,Nat.le_refl _,fun _ _ _ _ _=>rfl⟩
theorem trans(h:Ch T M mv w w')(h':Ch T M mv w' w2):Ch T M mv w w2:=
 ⟨h'.os.trans h.os,h'.tape.trans h.tape,h'.output.trans h.output,Nat.le_trans h.size h'.size,fun k hk a b c=>(h'.block k (Nat.lt_of_lt_of_le hk h.size) a b c).trans (h.block k hk a b c)⟩
theorem of_below(h:Below w.heap.size w w'):Ch T M mv w w':=⟨h.os,h.tape,h.output,h.size,fun k hk _ _ _=>h.block k hk⟩
theorem drewN(h:Ch T M mv w w')(n:Nat):Ch T M mv w (w'.drewN n):=⟨h.os,h.tape,h.output,h.size,h.block⟩
theorem drew(h:Ch T M mv w w'):Ch T M mv w w'.drew:=⟨h.os,h.tape,h.output,h.size,h.block⟩
theorem setT(h:Ch T M mv w w')(o:Nat)(u:Value):Ch T M mv w (w'.setCell ⟨T,o,none⟩ u):=
 ⟨h.os,h.tape,h.output,Nat.le_trans h.size (by simp[World.setCell]),fun k hk a b c=>(Below.heap_setCell w' ⟨T,o,none⟩ u k a).trans (h.block k hk a b c)⟩
theorem setM(h:Ch T M mv w w')(o:Nat)(u:Value):Ch T M mv w (w'.setCell ⟨M,o,none⟩ u):=
 ⟨h.os,h.tape,h.output,Nat.le_trans h.size (by simp[World.setCell]),fun k hk a b c=>(Below.heap_setCell w' ⟨M,o,none⟩ u k b).trans (h.block k hk a b c)⟩
theorem setD(h:Ch T M mv w w'){D:Nat}(hD:mv.ownBlock=some D)(o:Nat)(u:Value):Ch T M mv w (w'.setCell ⟨D,o,none⟩ u):=
 ⟨h.os,h.tape,h.output,Nat.le_trans h.size (by simp[World.setCell]),fun k hk a b c=>(Below.heap_setCell w' ⟨D,o,none⟩ u k (fun e=>c (by rw[hD,e]))).trans (h.block k hk a b c)⟩
theorem below{base:Nat}(h:Ch T M mv w w')(hb:base≤w.heap.size)(hT:base≤T)(hM:base≤M)(hD:∀k,mv.ownBlock=some k→base≤k):Below base w w':=
 ⟨h.os,h.tape,h.output,h.size,fun k hk=>h.block k (by omega) (by omega) (by omega) (fun e=>by have:=hD k e;omega)⟩
end Ch
structure MSt(base T M:Nat)(mv:Value)(x:Ins)(z:Int)(fl:Bool)(c:Mac)(w:World):Prop where
 t:CellsAt w T [.pointer (some ⟨M,0,none⟩),.int .i64 x.o,.int .i64 x.d,.int .i64 x.s,.int .i64 x.z,.int .i64 x.i,.int .i64 z,.bool fl]
 m:CellsAt w M (B4 c mv)
 v:B3B base T M w mv c.m
 tm:T≠M
 bt:base≤T
 bm:base≤M
 rl:c.r.length=32
 rb:∀k,0≤c.r.getD k 0∧c.r.getD k 0<4294967296
 ml:c.m.length≤32768
 mb:Byt c.m
 fb:0≤c.f∧c.f≤15
 ab:0≤c.a∧c.a<4294967296
 zz:z=16∨z=32
namespace MSt
variable {base T M : Nat} {mv : Value} {x : Ins} {z : Int} {fl : Bool} {c : Mac} {w w' : World}
theorem cLen(h:MSt base T M mv x z fl c w):(B4 c mv).length=36:=by simp[B4,h.rl]
theorem ltT(h:MSt base T M mv x z fl c w):T<w.heap.size:=h.t.lt (by simp)
theorem ltM(h:MSt base T M mv x z fl c w):M<w.heap.size:=h.m.lt (by rw[h.cLen];decide)
theorem ptr(h:MSt base T M mv x z fl c w):w.cell? ⟨T,0,none⟩=some (.pointer (some ⟨M,0,none⟩)):=(h.t 0 _ rfl).1
theorem xo(h:MSt base T M mv x z fl c w):w.cell? ⟨T,1,none⟩=some (.int .i64 x.o):=(h.t 1 _ rfl).1
theorem xd(h:MSt base T M mv x z fl c w):w.cell? ⟨T,2,none⟩=some (.int .i64 x.d):=(h.t 2 _ rfl).1
theorem xs(h:MSt base T M mv x z fl c w):w.cell? ⟨T,3,none⟩=some (.int .i64 x.s):=(h.t 3 _ rfl).1
theorem xz(h:MSt base T M mv x z fl c w):w.cell? ⟨T,4,none⟩=some (.int .i64 x.z):=(h.t 4 _ rfl).1
theorem xi(h:MSt base T M mv x z fl c w):w.cell? ⟨T,5,none⟩=some (.int .i64 x.i):=(h.t 5 _ rfl).1
theorem sz(h:MSt base T M mv x z fl c w):w.cell? ⟨T,6,none⟩=some (.int .i64 z):=(h.t 6 _ rfl).1
theorem ft(h:MSt base T M mv x z fl c w):w.cell? ⟨T,7,none⟩=some (.bool fl)∧w.frozen? ⟨T,7,none⟩=false:=h.t 7 _ rfl
theorem reg(h:MSt base T M mv x z fl c w){d:Nat}(hd:d<32):w.cell? ⟨M,d,none⟩=some (.int .u32 (c.r.getD d 0))∧w.frozen? ⟨M,d,none⟩=false:=by
 exact B0B
theorem tailAt(h:MSt base T M mv x z fl c w)(k:Nat)(v:Value)(hv:([.int .i64 c.f,.int .u32 c.a,mv,.int .i64 c.e]:List Value)[k]? =some v):w.cell? ⟨M,32+k,none⟩=some v∧w.frozen? ⟨M,32+k,none⟩=false:=by
 refine h.m (32+k) v ?_;unfold B4;rw[List.getElem?_append_right (by simp[h.rl])];simp only[List.length_map,h.rl,Nat.add_sub_cancel_left];exact hv
theorem flg(h:MSt base T M mv x z fl c w):w.cell? ⟨M,32,none⟩=some (.int .i64 c.f)∧w.frozen? ⟨M,32,none⟩=false:=h.tailAt 0 _ rfl
theorem mem(h:MSt base T M mv x z fl c w):w.cell? ⟨M,34,none⟩=some mv∧w.frozen? ⟨M,34,none⟩=false:=h.tailAt 2 _ rfl
theorem en(h:MSt base T M mv x z fl c w):w.cell? ⟨M,35,none⟩=some (.int .i64 c.e)∧w.frozen? ⟨M,35,none⟩=false:=h.tailAt 3 _ rfl
theorem memOther(h:MSt base T M mv x z fl c w){b k:Nat}(hb:b=T∨b=M)(u:Value):B3B base T M (w.setCell ⟨b,k,none⟩ u) mv c.m:=by
 rcases h.v with h|⟨D,cap,e,h1,h2,h3,h4,h5,h6⟩
 ·exact Or.inl h
 ·refine Or.inr ⟨D,cap,e,h1,h2,h3,h4,h5,by simpa using h6.1,fun i hi=>?_⟩;have hD:D≠b:=by rcases hb with rfl|rfl<;>assumption
  refine⟨?_,by rw[World.frozen?_setCell];exact h6.free hi⟩;rw[World.cell?_setCell_other _ _ _ _ (by intro hh;cases hh;exact hD rfl)];exact h6.cell hi
theorem setR(h:MSt base T M mv x z fl c w){d:Nat}(hd:d<32){n:Int}(h0:0≤n)(h1:n<4294967296):MSt base T M mv x z fl {c with r:=c.r.set d n} (w.setCell ⟨M,d,none⟩ (.int .u32 n)):=by
 have hd':d<c.r.length:=by rw[h.rl];exact hd
 refine{h with t:=h.t.other h.tm _,m:=?_,v:=h.memOther (Or.inr rfl) _,rl:=by simp[h.rl],rb:=fun k=>?_}
 ·have:=h.m.set (k:=d) (by rw[h.cLen];omega) (.int .u32 n);have e:(B4 c mv).set d (.int .u32 n)=B4 {c with r:=c.r.set d n} mv:=by
   unfold B4;rw[List.set_append_left _ _ (by simpa using hd'),List.map_set]
  rw[e]at this;exact this
 ·show 0≤(c.r.set d n).getD k 0∧_
  by_cases e:d=k
  ·subst e;rw[List.getD_eq_getElem?_getD,List.getElem?_set_self hd'];exact⟨h0,h1⟩
  ·rw[List.getD_eq_getElem?_getD,List.getElem?_set_ne e,←List.getD_eq_getElem?_getD];exact h.rb k
theorem setTail(h:MSt base T M mv x z fl c w)(k:Nat)(u:Value)(c':Mac)(hk:k<4)(e:([.int .i64 c.f,.int .u32 c.a,mv,.int .i64 c.e]:List Value).set k u=[.int .i64 c'.f,.int .u32 c'.a,mv,.int .i64 c'.e])(hr:c'.r=c.r):CellsAt (w.setCell ⟨M,32+k,none⟩ u) M (B4 c' mv):=by
 have:=h.m.set (k:=32+k) (by rw[h.cLen];omega) u;have e2:(B4 c mv).set (32+k) u=B4 c' mv:=by
  unfold B4;rw[List.set_append_right _ _ (by simp[h.rl]),hr];simp only[List.length_map,h.rl,Nat.add_sub_cancel_left];rw[e]
 rw[e2]at this;exact this
theorem setF(h:MSt base T M mv x z fl c w){n:Int}(h0:0≤n)(h1:n≤15):MSt base T M mv x z fl {c with f:=n} (w.setCell ⟨M,32,none⟩ (.int .i64 n)):=
 {h with t:=h.t.other h.tm _,m:=h.setTail 0 _ {c with f:=n} (by decide) rfl rfl,v:=h.memOther (Or.inr rfl) _,fb:=⟨h0,h1⟩}
theorem setA(h:MSt base T M mv x z fl c w){n:Int}(h0:0≤n)(h1:n<4294967296):MSt base T M mv x z fl {c with a:=n} (w.setCell ⟨M,33,none⟩ (.int .u32 n)):=
 {h with t:=h.t.other h.tm _,m:=h.setTail 1 _ {c with a:=n} (by decide) rfl rfl,v:=h.memOther (Or.inr rfl) _,ab:=⟨h0,h1⟩}
theorem setE(h:MSt base T M mv x z fl c w)(n:Int):MSt base T M mv x z fl {c with e:=n} (w.setCell ⟨M,35,none⟩ (.int .i64 n)):=
 {h with t:=h.t.other h.tm _,m:=h.setTail 3 _ {c with e:=n} (by decide) rfl rfl,v:=h.memOther (Or.inr rfl) _}
theorem setV(h:MSt base T M mv x z fl c w)(b:Bool):MSt base T M mv x z b c (w.setCell ⟨T,7,none⟩ (.bool b)):=
 {h with t:=h.t.set (k:=7) (by simp) _,m:=h.m.other h.tm.symm _,v:=h.memOther (Or.inl rfl) _}
theorem drewN(h:MSt base T M mv x z fl c w)(n:Nat):MSt base T M mv x z fl c (w.drewN n):={h with t:=h.t,m:=h.m,v:=h.v}
theorem drew(h:MSt base T M mv x z fl c w):MSt base T M mv x z fl c w.drew:=h.drewN 1
theorem own(h:MSt base T M mv x z fl c w)(k:Nat)(hk:mv.ownBlock=some k):base≤k∧k<w.heap.size:=by
 rcases h.v with⟨_,e⟩|⟨D,cap,e,h1,h2,h3,h4,h5,h6⟩
 ·rw[e]at hk;cases hk
 ·rw[e]at hk;cases hk;exact⟨h5,h6.1⟩
theorem ints(h:MSt base T M mv x z fl c w):Ints .u8 w mv c.m:=by
 rcases h.v with⟨e1,e⟩|⟨D,cap,e,h1,h2,h3,h4,h5,h6⟩
 ·rw[e,e1];exact Ints.nil _ _
 ·rw[e];have hl:=h.ml;exact⟨some ⟨D,0,none⟩,cap,rfl,h1,⟨by omega,by omega⟩,(fun hh=>by cases hh),fun i hi=>⟨D,0,rfl,h6.1,by rw[Nat.mul_one,Nat.zero_add];exact h6.cell hi⟩⟩
theorem same(h:MSt base T M mv x z fl c w)(hb:Below w.heap.size w w'):MSt base T M mv x z fl c w':=
 {h with
  t:=h.t.block (hb.block _ h.ltT)
  m:=h.m.block (hb.block _ h.ltM)
  v:=by
   rcases h.v with h|⟨D,cap,e,h1,h2,h3,h4,h5,h6⟩
   ·exact Or.inl h
   ·exact Or.inr ⟨D,cap,e,h1,h2,h3,h4,h5,h6.below hb⟩}
end MSt
end Go.Proofs.YtajljbmeaeeknaaGreat
namespace Go.Proofs.YtajljbmeaeeknaaGreat
open Go.RowKit
set_option linter.unusedVariables false
set_option linter.unusedSimpArgs false
section
variable {P : Program} {id : Nat} {Q : Exit → Act → World → Prop} {a : Act} {w : World} {l : List Oper}
theorem O4(n:Nat)(hm:P.follows .mixedOrders=true)(hB:Region.lexTailB .any l.toArray n=true)
  (h:wpQuiet P l.toArray (fun w'=>∃m,w'=w.drewN m) (fun a'=>∀w',(∃m,w'=w.drewN m)→wpList P l.toArray Q (l.drop n) a' w') (l.take n) a):(Code.region id l.toArray true).wp P Q a w:=by
 refine L2 (fun w'=>∃m,w'=w.drewN m) n hm hB ⟨1,rfl⟩ ?_;have e:(fun w'=>∃s:In (fun w'=>∃m,w'=w.drewN m),w'=s.w)=(fun w'=>∃m,w'=w.drewN m):=by
  funext w'
  apply propext;exact⟨fun⟨s,hs⟩=>by rw[hs];exact s.h,fun hw=>⟨⟨w',hw⟩,rfl⟩⟩
 rw[e];exact h
end
def hiB(n z:Int):Bool:=n / (pwZ z / 2)%2==1
section
variable {base T M : Nat} {mv : Value} {x : Ins} {z : Int} {fl : Bool} {c : Mac}
theorem T1(w:World)(h:MSt base T M mv x z fl c w):Calls prog 220 #[.pointer (some ⟨T,0,none⟩)] w fun e w'=>e= .returned (.int .u32 (pwZ z-1))∧w=w':=by
 have hz:=h.sz;have hT:=h.ltT;rcases h.zz with rfl|rfl
 ·clear h;have HP:Hid (pwZ 16-1=65535):=by show _=_;decide
  go_enter func220,ntmps220;go_wp2_with fail
  go_ret;exact⟨L6 HP.out.symm,rfl⟩
 ·clear h;have HP:Hid (pwZ 32-1=4294967295):=by show _=_;decide
  go_enter func220,ntmps220;go_wp2_with fail
  go_ret;exact⟨L6 HP.out.symm,rfl⟩
theorem R1(m k:Nat)(hm:m<2^32)(hk:k≤32):bits .and .u32 (m:Int) ((2^k:Nat)-1:Int)=((m%2^k:Nat):Int):=by
 have hp:(2:Nat)^k≤2^32:=Nat.pow_le_pow_right (by decide) hk;have hp0:0<(2:Nat)^k:=Nat.two_pow_pos k;have e1:(BitVec.ofInt 32 ((2^k:Nat)-1:Int)).toNat=2^k-1:=by
  rw[BitVec.toNat_ofInt];generalize(2:Nat)^k=p at*
  have:((p:Int)-1)%((2^32:Nat):Int)=(p:Int)-1:=Int.emod_eq_of_lt (by omega) (by omega);rw[this];omega
 have e2:(BitVec.ofInt 32 (m:Int)).toNat=m:=by
  rw[BitVec.toNat_ofInt];have:((m:Int))%((2^32:Nat):Int)=(m:Int):=Int.emod_eq_of_lt (by omega) (by omega);rw[this];omega
 show IntKind.u32.wrap ((BitVec.ofInt 32 (m:Int)&&&BitVec.ofInt 32 ((2^k:Nat)-1:Int)).toNat:Nat)=_
 rw[BitVec.toNat_and,e1,e2,Nat.and_two_pow_sub_one_eq_mod,IntKind.wrap_u32];have:=Nat.mod_lt m hp0;generalize m%2^k=t at*
 omega
theorem f9(n z:Int)(hz:z=16∨z=32)(h0:0≤n)(h1:n<4294967296):bits .and .u32 n (pwZ z-1)=n%pwZ z:=by
 obtain⟨m,rfl⟩:=Int.eq_ofNat_of_zero_le h0;rcases hz with rfl|rfl
 ·exact R1 m 16 (by omega) (by decide)
 ·exact R1 m 32 (by omega) (by decide)
theorem g7(n:Int)(h0:0≤n)(h1:n<4294967296):bits .and .u32 n 1=n%2:=by
 obtain⟨m,rfl⟩:=Int.eq_ofNat_of_zero_le h0;exact R1 m 1 (by omega) (by decide)
theorem H8(d:Nat)(hd:d<32)(w:World)(h:MSt base T M mv x z fl c w):Calls prog 160 #[.pointer (some ⟨T,0,none⟩),.int .i64 (d:Int)] w fun e w'=>e= .returned (.int .u32 (c.r.getD d 0%pwZ z))∧Dr w w':=by
 have hp:=h.ptr;have hT:=h.ltT;have hM:=h.ltM;have hr:=(h.reg hd).1;have HA:=hid (f9 (c.r.getD d 0) z h.zz (h.rb d).1 (h.rb d).2);have CM:=hid (fun wk (hk:MSt base T M mv x z fl c wk)=>T1 wk hk);have HS:=hid (fun n=>h.drewN n);have hd1:(d:Int)<32:=by omega
 generalize c.r.getD d 0=a at*
 generalize pwZ z-1=m at*
 clear h;go_enter func160,ntmps160;go_wp2_with fail
 go_quiet(first|(go_at_call 220;with_reducible exact E9 (CM.out _ (HS.out _))))
 go_wp2_with fail
 go_ret;exact⟨L6 HA.out,_,rfl⟩
theorem M7(b:Bool)(f:Int)(w:World):Calls prog 169 #[.bool b,.int .i64 f] w fun e w'=>e= .returned (.int .i64 (if b then f else 0))∧w=w':=by
 cases b
 ·go_enter func169,ntmps169;go_wp2_with fail
  go_ret;exact⟨rfl,rfl⟩
 ·go_enter func169,ntmps169;go_wp2_with fail
  go_ret;exact⟨rfl,rfl⟩
theorem O8(n:Int)(w:World)(h:MSt base T M mv x z fl c w)(h0:0≤n)(h1:n<4294967296):Calls prog 223 #[.pointer (some ⟨T,0,none⟩),.int .u32 n] w fun e w'=>e= .returned (.bool (hiB n z))∧w=w':=by
 have hz:=h.sz;have hT:=h.ltT;rcases h.zz with rfl|rfl
 ·clear h;have HP:Hid ((bits .and .u32 (n / 32768) 1==1)=hiB n 16):=by show _=_;rw[g7 _ (by omega) (by omega)];rfl
  go_enter func223,ntmps223;go_wp2_with fail
  go_ret;exact⟨A0X HP.out,rfl⟩
 ·clear h;have HP:Hid ((bits .and .u32 (n / 2147483648) 1==1)=hiB n 32):=by show _=_;rw[g7 _ (by omega) (by omega)];rfl
  go_enter func223,ntmps223;go_wp2_with fail
  go_ret;exact⟨A0X HP.out,rfl⟩
def wrR(old n z:Int):Int:=old-old%pwZ z+n%pwZ z
theorem A6V(a:Nat)(ha:a<2^32):a&&&(65535<<<16)=(a>>>16)<<<16:=by
 apply Nat.eq_of_testBit_eq;intro i;rw[Nat.testBit_and,Nat.testBit_shiftLeft,Nat.testBit_shiftLeft,Nat.testBit_shiftRight];by_cases h:i≥16
 ·simp only[h,decide_true,Bool.true_and];rw[show 16+(i-16)=i by omega,show(65535:Nat)=2^16-1 from rfl,Nat.testBit_two_pow_sub_one];by_cases h2:i-16<16
  ·simp[h2]
  ·have:a.testBit i=false:=Nat.testBit_lt_two_pow (Nat.lt_of_lt_of_le ha (Nat.pow_le_pow_right (by decide) (by omega)));simp[this]
 ·simp[h]
theorem A6E(a n z:Int)(hz:z=16∨z=32)(a0:0≤a)(a1:a<4294967296)(n0:0≤n)(n1:n<4294967296):bits .or .u32 (bits .andNot .u32 a (pwZ z-1)) (bits .and .u32 n (pwZ z-1))=wrR a n z:=by
 rw[f9 n z hz n0 n1];obtain⟨x,rfl⟩:=Int.eq_ofNat_of_zero_le a0;obtain⟨y,rfl⟩:=Int.eq_ofNat_of_zero_le n0;have hx:x<4294967296:=by omega
 have hy:y<4294967296:=by omega
 rcases hz with rfl|rfl
 ·have e1:bits .andNot .u32 (x:Int) (pwZ 16-1)=(((x>>>16)<<<16:Nat):Int):=by
   have:=u32_andNot_nat x 65535 hx (by decide);rw[show(4294967295-65535:Nat)=65535<<<16 from rfl,A6V x hx]at this;exact this
  have e2:((y:Int)%pwZ 16)=((y%65536:Nat):Int):=rfl;have hs:(x>>>16)<<<16=x / 65536*65536:=by rw[Nat.shiftLeft_eq,Nat.shiftRight_eq_div_pow]
  rw[e1,e2,u32_or_nat _ _ (by rw[hs];omega) (by omega),hs,nat_join 16 (x / 65536*65536) (y%65536) (Nat.mul_mod_left _ _) (Nat.mod_lt _ (by decide))];unfold wrR;show _=(x:Int)-x%65536+y%65536
  omega
 ·have e1:bits .andNot .u32 (x:Int) (pwZ 32-1)=((0:Nat):Int):=by
   have:=u32_andNot_nat x 4294967295 hx (by decide);rw[show(4294967295-4294967295:Nat)=0 from rfl,Nat.and_zero]at this;exact this
  have e2:((y:Int)%pwZ 32)=((y:Nat):Int):=by show(y:Int)%4294967296=_;omega
  rw[e1,e2,u32_or_nat _ _ (by decide) hy,Nat.zero_or];unfold wrR;show _=(x:Int)-x%4294967296+y%4294967296
  omega
theorem B0g(a n z:Int)(hz:z=16∨z=32)(a0:0≤a)(a1:a<4294967296)(n0:0≤n):0≤wrR a n z∧wrR a n z<4294967296:=by
 unfold wrR;rcases hz with rfl|rfl
 ·show 0≤a-a%65536+n%65536∧a-a%65536+n%65536<_;omega
 ·show 0≤a-a%4294967296+n%4294967296∧a-a%4294967296+n%4294967296<_;omega
theorem I2(d:Nat)(hd:d<32)(n:Int)(w:World)(h:MSt base T M mv x z fl c w)(n0:0≤n)(n1:n<4294967296):Calls prog 159 #[.pointer (some ⟨T,0,none⟩),.int .i64 (d:Int),.int .u32 n] w fun e w'=>e= .returned (.tuple #[])∧MSt base T M mv x z fl {c with r:=c.r.set d (wrR (c.r.getD d 0) n z)} w'∧Ch T M mv w w':=by
 have hp:=h.ptr;have hT:=h.ltT;have hM:=h.ltM;obtain⟨hr,hf⟩:=h.reg hd;have HJ:=hid (A6E (c.r.getD d 0) n z h.zz (h.rb d).1 (h.rb d).2 n0 n1);have CM:=hid (fun wk (hk:MSt base T M mv x z fl c wk)=>T1 wk hk);have HS:=hid h;have hbd:=B0g (c.r.getD d 0) n z h.zz (h.rb d).1 (h.rb d).2 n0;have HS2:=hid (fun k=>(h.drewN k).setR hd hbd.1 hbd.2);have hd1:(d:Int)<32:=by omega
 rw[←HJ.out]at HS2⊢;clear HJ hbd;generalize c.r.getD d 0=a at*
 generalize pwZ z-1=m at*
 clear h;go_enter func159,ntmps159;go_wp2_with fail
 refine O4 25 (by kernel_rfl) (by kernel_rfl) ?_;simp only[List.take_succ_cons,List.take_zero,List.drop_succ_cons,List.drop_zero]
 repeat(quiet_step (first|(go_at_call 220;with_reducible exact E9 (CM.out _ (HS.out.drewN _)))))
 refine wpQuiet_nil ?_;intro _ hw';obtain⟨nq,hw''⟩:=hw';subst hw'';go_wp2_with fail
 exact bodyPost_end (v:=.tuple #[]) (by simp[results,results159,go_sem]) rfl ⟨rfl,HS2.out nq,((Ch.refl _ _ _ _).drewN _).setM _ _⟩
end
end Go.Proofs.YtajljbmeaeeknaaGreat
namespace Go.Proofs.YtajljbmeaeeknaaGreat
open Go.RowKit
set_option linter.unusedVariables false
set_option linter.unusedSimpArgs false
def rsF(n z other:Int):Int:=other+(if n%pwZ z=0 then 2 else 0)+(if hiB n z then 4 else 0)
def OthF(o:Int):Prop:=o=0∨o=1∨o=8∨o=9
theorem OthF.or2{o:Int}(h:OthF o):bits .or .i64 o 2=o+2:=by rcases h with rfl|rfl|rfl|rfl<;>decide
theorem OthF.or4{o:Int}(h:OthF o):bits .or .i64 o 4=o+4:=by rcases h with rfl|rfl|rfl|rfl<;>decide
theorem OthF.or6{o:Int}(h:OthF o):bits .or .i64 (o+2) 4=o+6:=by rcases h with rfl|rfl|rfl|rfl<;>decide
theorem OthF.bd{o:Int}(h:OthF o):0≤o∧o≤9:=by rcases h with rfl|rfl|rfl|rfl<;>decide
section
variable {base T M : Nat} {mv : Value} {x : Ins} {z : Int} {fl : Bool} {c : Mac}
theorem P4(n o:Int)(w:World)(h:MSt base T M mv x z fl c w)(n0:0≤n)(n1:n<4294967296)(ho:OthF o):Calls prog 224 #[.pointer (some ⟨T,0,none⟩),.int .u32 n,.int .i64 o] w fun e w'=>e= .returned (.tuple #[])∧MSt base T M mv x z fl {c with f:=rsF n z o} w'∧Ch T M mv w w':=by
 have hp:=h.ptr;have hT:=h.ltT;have hM:=h.ltM;have hTM:=h.tm;have hMT:=h.tm.symm;obtain⟨hf,hff⟩:=h.flg;have hbd:=ho.bd;have o2:=ho.or2;have o4:=ho.or4;have o6:=ho.or6;have HA:=f9 n z h.zz n0 n1;have CM:=hid (fun(c':Mac) wk (hk:MSt base T M mv x z fl c' wk)=>T1 wk hk);have CH:=hid (fun(c':Mac) wk (hk:MSt base T M mv x z fl c' wk)=>O8 n wk hk n0 n1);have S0:=h.setF (n:=o) (by omega) (by omega);have H0:=hid S0;have H1:=hid (S0.setF (n:=o+2) (by omega) (by omega));have H2:=hid (S0.setF (n:=o+4) (by omega) (by omega));have H3:=hid ((S0.setF (n:=o+2) (by omega) (by omega)).setF (n:=o+6) (by omega) (by omega));have HR:Hid (rsF n z o=o+(if n%pwZ z=0 then 2 else 0)+(if hiB n z then 4 else 0)):=rfl;obtain⟨b1,hb1⟩:∃b,hiB n z=b:=⟨_,rfl⟩
 rw[hb1]at CH;obtain⟨b0,hb0⟩:∃b,(bits .and .u32 n (pwZ z-1)==0)=b:=⟨_,rfl⟩
 have hq:n%pwZ z=0↔b0=true:=by rw[←hb0,HA];simp
 have HQ:=hid hq;have HB1:=hid hb1;generalize pwZ z-1=m at*
 clear h S0 HA hb1 hq ho;cases b0
 ·cases b1
  ·have HV:Hid (rsF n z o=o):=hid (by rw[HR.out,if_neg (fun e=>by simpa using HQ.out.1 e),HB1.out];simp);go_enter func224,ntmps224;go_wp2_with((with_reducible first|refine(CM.out _ _ H0.out).mono ?_|refine(CH.out _ _ H0.out).mono ?_);rintro e w' ⟨rfl,rfl⟩)
   exact bodyPost_end (v:=.tuple #[]) (by simp[results,results224,go_sem]) rfl ⟨rfl,by rw[HV.out];exact H0.out,(Ch.refl _ _ _ _).setM _ _⟩
  ·have HV:Hid (rsF n z o=o+4):=hid (by rw[HR.out,if_neg (fun e=>by simpa using HQ.out.1 e),HB1.out];simp);go_enter func224,ntmps224;go_wp2_with((with_reducible first|refine(CM.out _ _ H0.out).mono ?_|refine(CH.out _ _ H0.out).mono ?_);rintro e w' ⟨rfl,rfl⟩)
   exact bodyPost_end (v:=.tuple #[]) (by simp[results,results224,go_sem]) rfl ⟨rfl,by rw[HV.out];exact H2.out,((Ch.refl _ _ _ _).setM _ _).setM _ _⟩
 ·cases b1
  ·have HV:Hid (rsF n z o=o+2):=hid (by rw[HR.out,if_pos (HQ.out.2 rfl),HB1.out];simp);go_enter func224,ntmps224;go_wp2_with((with_reducible first|refine(CM.out _ _ H0.out).mono ?_|refine(CH.out _ _ H1.out).mono ?_);rintro e w' ⟨rfl,rfl⟩)
   exact bodyPost_end (v:=.tuple #[]) (by simp[results,results224,go_sem]) rfl ⟨rfl,by rw[HV.out];exact H1.out,((Ch.refl _ _ _ _).setM _ _).setM _ _⟩
  ·have HV:Hid (rsF n z o=o+6):=hid (by rw[HR.out,if_pos (HQ.out.2 rfl),HB1.out];simp;omega);go_enter func224,ntmps224;go_wp2_with((with_reducible first|refine(CM.out _ _ H0.out).mono ?_|refine(CH.out _ _ H1.out).mono ?_);rintro e w' ⟨rfl,rfl⟩)
   exact bodyPost_end (v:=.tuple #[]) (by simp[results,results224,go_sem]) rfl ⟨rfl,by rw[HV.out];exact H3.out,(((Ch.refl _ _ _ _).setM _ _).setM _ _).setM _ _⟩
end
end Go.Proofs.YtajljbmeaeeknaaGreat
