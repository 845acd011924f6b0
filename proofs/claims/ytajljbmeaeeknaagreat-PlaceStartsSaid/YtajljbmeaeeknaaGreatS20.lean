/- -/
import Derived.Deep.OwnRows
import Derived.Deep.RegionLaw
import Derived.Deep.AppendLies
import Derived.BigRegion
import Derived.Test.YtajljbmeaeeknaaGreatS4
import Derived.Test.YtajljbmeaeeknaaGreatS5
import Derived.Test.YtajljbmeaeeknaaGreatS19
open Go.Proofs.Tryz
open Go.Lib (hid)
set_option maxRecDepth 100000
namespace Go.Proofs.YtajljbmeaeeknaaGreat
open Go.RowKit Go.Maps
set_option linter.unusedVariables false
set_option linter.unusedSimpArgs false
theorem A5A:(prog.info? 61).map (fun i=>(i.zero,i.size,i.bytes))=some (some (.agg #[.int .i64 0,.int .i64 0,.int .i64 0,.int .i64 0,.int .u32 0,.int .i64 0]),6,48):=by kernel_rfl
theorem V1:(prog.info? 3).map (fun i=>(i.zero,i.size,i.bytes))=some (some (.int .i64 0),1,8):=by kernel_rfl
theorem A6T:(prog.info? 4).map (fun i=>(i.zero,i.size,i.bytes))=some (some (.bool false),1,1):=by kernel_rfl
def cdC(x:Cd):List Value:=[.int .i64 x.o,.int .i64 x.d,.int .i64 x.a,.int .i64 x.b,.int .u32 x.i,.int .i64 x.t]
theorem A0F(x:Cd):(cdC x).length=6:=rfl
theorem A6Y(xs:List Cd):∀u∈xs.flatMap cdC,u.oneCell'=true:=by
 intro u hu;obtain⟨x,_,hx⟩:=List.mem_flatMap.1 hu;simp only[cdC,List.mem_cons,List.not_mem_nil,or_false]at hx;rcases hx with rfl|rfl|rfl|rfl|rfl|rfl<;>rfl
theorem A1P(xs:List Cd):(xs.flatMap cdC).length=xs.length*6:=by
 induction xs with
 |nil=>rfl
 |cons x r ih=>rw[List.flatMap_cons,List.length_append,ih,List.length_cons,A0F];omega
theorem A8M{w:World}{b o:Nat}{x:Cd}(h:∀j,j<6→w.cell? ⟨b,o+j,none⟩=(cdC x)[j]?):A2b w b o x:=
 ⟨h 0 (by omega),h 1 (by omega),h 2 (by omega),h 3 (by omega),h 4 (by omega),h 5 (by omega)⟩
theorem A8L{w:World}{b o:Nat}{x:Cd}(h:A2b w b o x):∀j,j<6→w.cell? ⟨b,o+j,none⟩=(cdC x)[j]? :=by
 obtain⟨h0,h1,h2,h3,h4,h5⟩:=h;intro j hj
 match j,hj with
 |0,_=>exact h0
 |1,_=>exact h1
 |2,_=>exact h2
 |3,_=>exact h3
 |4,_=>exact h4
 |5,_=>exact h5
theorem Cds.news{w:World}{ad:Addr}{n c:Nat}{xs:List Cd}(h:Cds w (.slice (some ad) n c) xs):∀k u,(xs.flatMap cdC)[k]? =some u→w.cell? (ad.add k)=some u:=by
 intro k u hk;have hkl:k<xs.length*6:=by
  rw[←A1P];exact(List.getElem?_eq_some_iff.1 hk).1
 obtain⟨a,c',e,h1,h2,h3,h4⟩:=h;cases e;have hi:k / 6<xs.length:=by omega
 obtain⟨b,q,e,h5,h6⟩:=h4 (k / 6) hi;cases e;have h7:=A8L h6 (k%6) (by omega);rw[←j8 A0F xs (k / 6) (k%6) hi (by omega)]at h7;have e3:k / 6*6+k%6=k:=by omega
 rw[e3,hk]at h7;rw[Y7];have e4:q+k / 6*6+k%6=q+k:=by omega
 rw[e4]at h7;exact h7
theorem Cds.ad{w:World}{v:Value}{xs:List Cd}(h:Cds w v xs)(h0:0<xs.length):∃b q c,v= .slice (some ⟨b,q,none⟩) xs.length c∧b<w.heap.size:=by
 obtain⟨b,q,c,e,_,h5,_⟩:=h.at h0;exact⟨b,q,c,e,h5⟩
structure RowsL(L j:Nat)(bs:List (List Cd))(cv bv:Value)(w:World):Prop where
 hc:RowG cdC w (L+1) 61 6 cv (bs.take j).flatten
 hb:RowI w (L+1) 3 .i64 bv ((blS bs).take j)
 ne:∀k,cv.ownBlock=some k→bv.ownBlock≠some k
theorem S0(bs:List (List Cd))(j:Nat):(bs.take j).flatten.length=toC (bs.take j):=E6 _
theorem RowsL.shape{L j:Nat}{bs:List (List Cd)}{cv bv:Value}{w:World}(h:RowsL L j bs cv bv w)(hj:j≤bs.length):(∃a c,cv= .slice a (toC (bs.take j)) c)∧(∃a c,bv= .slice a j c):=by
 refine⟨?_,?_⟩
 ·obtain⟨h0,⟨e,h1⟩|⟨g,cap,cur,e,-⟩⟩:=h.hc
  ·rw[S0]at h1;exact⟨none,0,by rw[e,h1]⟩
  ·rw[S0]at e;exact⟨_,_,e⟩
 ·obtain⟨a,c,e⟩:=h.hb.shape;rw[List.length_take,L8,Nat.min_eq_left hj]at e;exact⟨a,c,e⟩
theorem A1h(bs:List (List Cd)){j:Nat}(h:j<bs.length):(bs.take (j+1)).flatten=(bs.take j).flatten++bs.getD j []:=by
 rw[List.take_add_one,List.getElem?_eq_getElem h,List.getD_eq_getElem?_getD,List.getElem?_eq_getElem h,List.flatten_append]
 congr 1
 exact List.append_nil _
theorem A4G(bs:List (List Cd)){j:Nat}(h:j<bs.length):(blS bs).take (j+1)=(blS bs).take j++[(toC (bs.take j):Int)]:=by
 rw[List.take_add_one,List.getElem?_eq_getElem (by rw[L8];exact h)];have:=A0H bs h;rw[List.getD_eq_getElem?_getD,List.getElem?_eq_getElem (by rw[L8];exact h),Option.getD_some]at this;rw[this];rfl
theorem RowI.own{w:World}{base:Nat}{e:TypeId}{k:IntKind}{v:Value}{xs:List Int}(h:RowI w base e k v xs){n:Nat}(hn:xs.length=n):w.ownsRow base e 1 v n (xs.map (Value.int k)):=hn▸h
theorem RowG.own{α:Type}{C:α→List Value}{w:World}{base:Nat}{e:TypeId}{z:Nat}{v:Value}{xs:List α}(h:RowG C w base e z v xs){n:Nat}(hn:xs.length=n):w.ownsRow base e z v n (xs.flatMap C):=hn▸h
theorem N7{w:World}{base:Nat}{e:TypeId}{z:Nat}{v:Value}{n:Nat}{xs:List Value}(h:w.ownsRow base e z v n xs){L k:Nat}{u:Value}(hL:L<base):(w.setCell ⟨L,k,none⟩ u).ownsRow base e z v n xs:=by
 refine P5 h fun g hg hlt=>?_
 have:=(H5 h g hg).1;exact Below.heap_setCell _ _ _ _ (by show g≠L;omega)
theorem RowsL.begin(L:Nat)(bs:List (List Cd))(w:World):RowsL L 0 bs (.slice none 0 0) (.slice none 0 0) w:=
 ⟨RowG.nil _ _ _ _ _,RowI.nil _ _ _ _,fun k hk=>by cases hk⟩
theorem RowsL.blocks{L j:Nat}{bs:List (List Cd)}{cv bv:Value}{wr w4:World}(h:RowsL L j bs cv bv wr){X:Obj}{gg cap kn:Nat}(hj:j<bs.length)(hkn:toC (bs.take j)=kn)
  (hown:w4.ownsRow (L+1) 3 1 (.slice (some ⟨gg,0,none⟩) (j+1) cap) (j+1) (((blS bs).take j).map (Value.int .i64)++[.int .i64 (kn:Nat)])) (hgrow:(wr.alloc X).grownBy w4 bv.ownBlock) (hat:bv.ownBlock=some gg∨gg=wr.heap.size+1) (u:Value):
  RowG cdC (w4.setCell ⟨L,2,none⟩ u) (L+1) 61 6 cv (bs.take j).flatten∧RowI (w4.setCell ⟨L,2,none⟩ u) (L+1) 3 .i64 (.slice (some ⟨gg,0,none⟩) (j+1) cap) ((blS bs).take (j+1))∧∀k,cv.ownBlock=some k→k≠gg:=by
 subst hkn;refine⟨N7 (P5 h.hc fun g hg hlt=>?_) (by omega),N7 (RowI.app1 hown ?_ (A4G bs hj)) (by omega),fun k hk e=>?_⟩
 ·have h1:=hgrow.block g (by simp;omega) (by intro hh;exact h.ne g hg hh.symm);rw[h1];exact((Below.refl wr.heap.size wr).alloc (Nat.le_refl _) X).block g hlt
 ·rw[List.length_take,L8];omega
 ·subst e;rcases hat with e|e
  ·exact h.ne _ hk e
  ·have:=(H5 h.hc _ hk).2;omega
theorem RowsL.code{L j:Nat}{bs:List (List Cd)}{cv:Value}{w5 w6:World}{gg cap gc capc n:Nat}(hj:j<bs.length)(hc:RowG cdC w5 (L+1) 61 6 cv (bs.take j).flatten)(hb:RowI w5 (L+1) 3 .i64 (.slice (some ⟨gg,0,none⟩) (j+1) cap) ((blS bs).take (j+1)))(hne:∀k,cv.ownBlock=some k→k≠gg)
  (hn:n=toC (bs.take j)+(bs.getD j []).length) (hown:w6.ownsRow (L+1) 61 6 (.slice (some ⟨gc,0,none⟩) n capc) n ((bs.take j).flatten.flatMap cdC++(bs.getD j []).flatMap cdC)) (hgrow:w5.grownBy w6 cv.ownBlock) (hat:cv.ownBlock=some gc∨gc=w5.heap.size) (u:Value):
  RowsL L (j+1) bs (.slice (some ⟨gc,0,none⟩) n capc) (.slice (some ⟨gg,0,none⟩) (j+1) cap) (w6.setCell ⟨L,1,none⟩ u):=by
 have hgl:=H5 hb gg rfl;refine⟨N7 ?_ (by omega),N7 (P5 hb fun g hg hlt=>?_) (by omega),fun k hk e=>?_⟩
 ·rw[A1h bs hj,List.length_append,S0,List.flatMap_append,←hn];exact hown
 ·cases hg;exact hgrow.block _ hlt (by intro hh;exact hne _ hh.symm rfl)
 ·cases hk;cases e;rcases hat with e|e
  ·exact hne _ e rfl
  ·omega
theorem T5(z:Value)(n:Nat):madeCells #[z] n=(List.replicate n z).toArray:=by
 apply Array.ext
 ·unfold madeCells;simp
 ·intro i h1 h2;unfold madeCells;simp[Nat.mod_one]
theorem LayW.made{T:TypeId}{L:Nat}{bs:List (List Cd)}{cv bv:Value}{w W W':World}{s g n m B0:Nat}(hB:B0=w.heap.size)(hn:n=toC bs+1)(hm:m=toC bs)(hl:Cls w L [.iface T (.agg #[]),cv,bv,.slice none 0 0,.slice none 0 0])(hr:RowsL L bs.length bs cv bv w)(h0:0<bs.length)(h1:0<toC bs)(h5:toC bs≤500)(hs:w.heap.size≤s)(hg:w.heap.size≤g)(hsg:s≠g)
  (hW:W=(w.setCell ⟨L,3,none⟩ (.slice (some ⟨s,0,none⟩) n n)).setCell ⟨L,4,none⟩ (.slice (some ⟨g,0,none⟩) m m)) (hb:Below W.heap.size W W')
  (h3:Cls W' s (List.replicate n (.int .i64 0))) (h4:Cls W' g (List.replicate m (.bool false))):
  ∃b cb d db,LayW T B0 L b cb d db s g bs.flatten (blS bs) (List.replicate (toC bs+1) 0) (List.replicate (toC bs) false) W':=by
 subst hn hm hB;have hz:W.heap.size=w.heap.size:=by rw[hW];simp
 have hLl:=hl.lt (by simp);have hfl:=E6 bs;have hbl:=L8 bs;obtain⟨k1,⟨e,hh⟩|⟨b,cb,cur,rfl,hbb,hbg,b1,b2,b3,b4⟩⟩:=hr.hc
 ·rw[List.take_length]at hh;omega
 obtain⟨k2,⟨e,hh⟩|⟨d,db,cur2,rfl,hdb,hdg,d1,d2,d3,d4⟩⟩:=hr.hb
 ·rw[List.length_take,hbl]at hh;omega
 have hc:=hr.hc;have hd:=hr.hb;have e1:bs.take bs.length=bs:=List.take_length;have e2:(blS bs).take bs.length=blS bs:=by rw[←hbl,List.take_length]
 simp only[e1]at hc hl;simp only[e2]at hd hl;have hblt:=(World.ownsRow.lt hc b rfl).2;have hdlt:=(World.ownsRow.lt hd d rfl).2;refine⟨b,cb,d,db,?_⟩;have hLW:Cls W L [.iface T (.agg #[]),.slice (some ⟨b,0,none⟩) bs.flatten.length cb,.slice (some ⟨d,0,none⟩) (blS bs).length db,.slice (some ⟨s,0,none⟩) (bs.flatten.length+1) (bs.flatten.length+1),.slice (some ⟨g,0,none⟩) bs.flatten.length bs.flatten.length]:=by
  rw[hW,hfl];rw[hfl]at hl;exact(hl.set (k:=3) (by simp) _).set (k:=4) (by simp) _
 have hcell:∀(k o:Nat) (u:Value),k≠L→k<w.heap.size→w.cell? ⟨k,o,none⟩=some u→W'.cell? ⟨k,o,none⟩=some u:=fun k o u hk hkl hu=>by
  refine A7 hb (by omega) ?_;rw[hW,World.cell?_setCell_other _ _ _ _ (by intro hh;cases hh;omega),World.cell?_setCell_other _ _ _ _ (by intro hh;cases hh;omega)];exact hu
 refine⟨hLW.below (by omega) hb,fun j hj=>?_,fun j hj=>?_,?_,?_,by simp[hfl],by simp[hfl],by omega,by omega,by omega,hs,hg,hsg,by omega,by omega⟩
 ·have hcc:=(RowG.slc hc A0F (by omega) (by omega))
  obtain⟨a,c',e,_,_,_,h9⟩:=hcc;cases e;obtain⟨bb,oo,e,_,h10⟩:=h9 j hj;cases e;rw[Nat.zero_add]at h10;have h11:=A8M h10;obtain⟨c0,c1,c2,c3,c4,c5⟩:=h11;exact⟨hcell _ _ _ (by omega) hblt c0,hcell _ _ _ (by omega) hblt c1,hcell _ _ _ (by omega) hblt c2,hcell _ _ _ (by omega) hblt c3,hcell _ _ _ (by omega) hblt c4,hcell _ _ _ (by omega) hblt c5⟩
 ·have h9:=World.ownsRow.cellAt hd j (by omega);rw[List.getElem?_map,List.getElem?_eq_getElem hj]at h9;refine hcell _ _ _ (by omega) hdlt ?_;rw[h9,List.getD_eq_getElem?_getD,List.getElem?_eq_getElem hj];rfl
 ·rw[List.map_replicate];exact h3
 ·rw[List.map_replicate];exact h4
theorem A0E{W:World}{xs ys:List Value}{t u:TypeId}:Cls ((W.alloc (.cells xs.toArray t)).alloc (.cells ys.toArray u)).drew W.heap.size xs∧Cls ((W.alloc (.cells xs.toArray t)).alloc (.cells ys.toArray u)).drew (W.heap.size+1) ys:=by
 have h1:Cls (W.alloc (.cells xs.toArray t)) W.heap.size xs:=Cls.made;have h2:Cls ((W.alloc (.cells xs.toArray t)).alloc (.cells ys.toArray u)) (W.alloc (.cells xs.toArray t)).heap.size ys:=Cls.made;have e:(W.alloc (.cells xs.toArray t)).heap.size=W.heap.size+1:=by simp
 rw[e]at h2;refine⟨(h1.block (((Below.refl _ _).alloc (Nat.le_refl _) (.cells ys.toArray u)).block W.heap.size (by omega))).block rfl,h2.block rfl⟩
def A8E(w:World)(g n:Nat):Nat:=((List.range n).map fun i=>match w.cell? ⟨g,i,none⟩with|some (.bool b)=>b|_=>true).count false
theorem LayW.fal{T:TypeId}{B L b cb d db s g:Nat}{cs:List Cd}{bl:List Int}{st:List Nat}{lo:List Bool}{w:World}(h:LayW T B L b cb d db s g cs bl st lo w):A8E w g cs.length=lo.count false:=by
 have e:((List.range cs.length).map fun i=>match w.cell? ⟨g,i,none⟩with|some (.bool b)=>b|_=>true)=lo:=by
  apply List.ext_getElem (by simp[h.lg]);intro i h1 h2;have:=h.hg.at i (.bool lo[i]) (by rw[List.getElem?_map,List.getElem?_eq_getElem h2];rfl);simp[this]
 unfold A8E;rw[e]
theorem A8l{p:Prop}(h:p:=by
 go_quiet((go_at_call 36;with_reducible exact D8 (C1.out _)))
 go_wp2_with fail
 go_roundw
 case rel=>exact⟨j+1,lo1,by omega,by go_num,hid (H6.out.below (B8 (Below.refl _ _) _)),hid (B8 HW6.out _),hid (HRT.out.keep HLT.out HE1.out),hag⟩
 case measure=>simp[intOf];omega
 ):p:=h
theorem A0J{set regs:Int}{bs:List (List Cd)}(h:F3 set regs bs=0):A0L set regs∧K9 regs bs=0:=by
 rcases Y6 set regs bs with⟨_,e⟩|⟨_,e⟩|⟨_,hn,e⟩|⟨_,hn,e⟩|⟨_,_,_,e⟩|⟨_,_,_,e⟩|⟨hs,hv,hr,e⟩|⟨hs,hv,hr,e⟩
 ·omega
 ·omega
 ·exact absurd (e.symm.trans h) hn
 ·exact absurd (e.symm.trans h) hn
 ·omega
 ·omega
 ·exact⟨.inl ⟨hs,by omega⟩,hv⟩
 ·exact⟨.inr ⟨hs,by omega⟩,hv⟩
def B0Q(set:Int)(bs:List (List Cd))(L:Nat)(lo:List Bool)(w:World):Prop:=
 ∃B b cb d db s g,LayW (tS set) B L b cb d db s g bs.flatten (blS bs) (F4 set bs.flatten lo) lo w∧Relx set bs.flatten (blS bs) lo
def A3w(set regs:Int)(bs:List (List Cd))(w:World)(e:Ending)(w':World):Prop:=
 ((F3 set regs bs≠0∧e= .returned (.tuple #[.pointer none,.int .i64 (F3 set regs bs)]))∨(F3 set regs bs=0∧∃L lo,e= .returned (.tuple #[.pointer (some ⟨L,0,none⟩),.int .i64 0])∧B0Q set bs L lo w'))∧Below w.heap.size w w'
theorem A6l{p:Prop}(h:p:=by
 have HML:=hid (U9 set 390);have HCF:=hid (k7 set);have CB:=hid S5;have CR:=hid (Z6 set);unfold ncV at CR;have hfl:bs.flatten.length=kn:=(E6 bs).trans hkn;have HFL:=hid hfl;have HWB:Hid (w.heap.size≤B0):=hid (by have:=hBq.out.size;have:=HSz.out;omega);have hcs5:bs.flatten.length≤500:=by omega
 have CL:=hid (fun st lo w' h=>A6K HSR.out B0 w2.heap.size b cb d db sx gx bs.flatten (blS bs) st lo HPC.out w' h);have HOF:=hid (show∀(lo:List Bool) (i:Nat),i≤bs.flatten.length→D4 set bs.flatten lo i≤22500 from fun lo i hi=>S3 HSR.out HPC.out hcs5 lo hi);have HBT:=hid (show∀(j:Nat),j<bs.flatten.length→L9 (bs.flatten.getD j default).o=true→∃k m:Nat,(bs.flatten.getD j default).t=k∧k<(blS bs).length∧(blS bs).getD k 0=m∧m≤bs.flatten.length from fun j hj hb=>by
  obtain⟨t0,t1⟩:=A8P (HPC.out j hj).ok hb;obtain⟨k,hk⟩:=Int.eq_ofNat_of_zero_le t0;have hk':k<bs.length:=by omega
  refine⟨k,toC (bs.take k),hk,by rw[L8];exact hk',A0H bs hk',?_⟩;have:=T9 (bs:=bs) k;omega)
 have HL0:Hid (∃k,List.replicate (toC bs) false=W8 set bs.flatten (blS bs) k):=hid ⟨0,by unfold W8;rw[hfl,hkn]⟩;clear hfl hn1 hcs5;generalize hcs:bs.flatten=cs at*
 generalize hbl:blS bs=bl at*
 have HKN:Hid (cs.length=kn):=HFL;generalize hT:tS set=T at*
 generalize fRe set=FR at*
 go_wp2_with fail
 go_loopw[11,12,13,84] (fun ag _ _ _ wr=>∃(lo:List Bool) (st:List Nat),Hid (LayW T B0 w2.heap.size b cb d db sx gx cs bl st lo wr)∧Hid (Below w.heap.size w wr)∧((ag= .bool true∧Hid (∃k,lo=W8 set cs bl k))∨(ag= .bool false∧Hid (st=F4 set cs lo)∧Hid (Relx set cs bl lo)))) (fun ag _ _ _ wr=>2*A8E wr gx cs.length+match ag with|.bool true=>1|_=>0)
 case atStart=>exact⟨_,_,HLay,HBz,.inl ⟨rfl,HL0⟩⟩
 case round=>
  obtain⟨lo,st,HA,HBq,hag⟩:=hrel;rcases hag with⟨rfl,HRn⟩|⟨rfl,HST,HRX⟩
  ·have C3:=hid (CL.out st lo _ HA.out);have HFA:=hid HA.out.fal;go_wp2_with(go_at_call 72;with_reducible refine C3.out.mono ?_;rintro e w5 ⟨rfl,hA5,hb5⟩;have l15:=hA5.hl.at 1 (.slice (some ⟨b,0,none⟩) cs.length cb) rfl;have HA5:=hid hA5;have HB5:=hid (HBq.out.trans (hb5.mono HWB.out));clear hA5 hb5)
   obtain⟨wo,rfl⟩:∃wo:World,wo=wr:=⟨_,rfl⟩
   go_loopw[11,12,13,84] (fun ag _ _ i wr=>∃(j:Nat) (lo1:List Bool),j≤cs.length∧i= .int .i64 (j:Nat)∧Hid (LayW T B0 w2.heap.size b cb d db sx gx cs bl (F4 set cs lo) lo1 wr)∧Hid (Below w.heap.size w wr)∧Hid (RndTo set cs bl lo lo1 j)∧((ag= .bool false∧Hid (lo1=lo))∨(ag= .bool true∧Hid (lo1.count false<lo.count false)))) (fun _ _ _ i _=>cs.length-(intOf i).toNat)
   case atStart=>exact⟨0,lo,Nat.zero_le _,rfl,HA5,HB5,hid (RndTo.begin HA5.out.lg),.inl ⟨rfl,hid rfl⟩⟩
   case round=>
    obtain⟨j,lo1,hj,rfl,HB,HBb,HRT,hag⟩:=hrel;by_cases hlt:j<cs.length
    ·have hlt':(j:Int)<(cs.length:Int):=Int.ofNat_lt.2 hlt;obtain⟨c0,c1,c2,c3,c4,c5⟩:=HB.out.hc j hlt;have HX0:=hid (HPC.out j hlt);have HT0:=hid (HBT.out j hlt);have HE0:=hid (HRT.out.2 j hlt);have hblt:=B6 c0;have hne1:¬b=wr.heap.size:=by omega
     have l1r:=HB.out.hl.at 1 (.slice (some ⟨b,0,none⟩) cs.length cb) rfl;have hj1:IntKind.i64.wrap ((j:Int)+1)=((j+1:Nat):Int):=by rw[IntWalk.i64_left];exact IntWalk.wrap64_in _ (by have:=HB.out.hn;omega)
     have HLT:=hid hlt;generalize hxx:cs.getD j default=x at*
     go_upto_region 19 with fail
     generalize hW6:wr.alloc (.cells #[.int .i64 x.o,.int .i64 x.d,.int .i64 x.a,.int .i64 x.b,.int .u32 x.i,.int .i64 x.t] 61)=W6;have BB6:Hid (Below wr.heap.size wr W6):=by rw[←hW6];exact(Below.refl _ _).alloc (Nat.le_refl _) _
     have HB6:Hid (Cls W6 wr.heap.size [.int .i64 x.o,.int .i64 x.d,.int .i64 x.a,.int .i64 x.b,.int .u32 x.i,.int .i64 x.t]):=by rw[←hW6];exact Cls.made
     have H6:Hid (LayW T B0 w2.heap.size b cb d db sx gx cs bl (F4 set cs lo) lo1 W6):=HB.out.below BB6.out;have HW6:Hid (Below w.heap.size w W6):=A8 HBb.out BB6.out;have hbit:lo1.getD j false=lo.getD j false:=by rw[HE0.out,if_neg (Nat.lt_irrefl _)]
     have HRB:Hid (W9 set cs bl lo j=(lo.getD j false||(L9 x.o&& !(A0e set x.o (D4 set cs lo j:Nat) (toF set cs bl lo x:Nat))))):=by unfold W9;rw[hxx];exact hid rfl
     have HBIT:=hid hbit;have g0:=H6.out.hg.at j (.bool (lo.getD j false)) (by rw[←HBIT.out,List.getElem?_map,List.getD_eq_getElem?_getD,List.getElem?_eq_getElem (by rw[HB.out.lg];exact hlt)];rfl);have gf:=H6.out.hg.at' j (.bool (lo.getD j false)) (by rw[←HBIT.out,List.getElem?_map,List.getD_eq_getElem?_getD,List.getElem?_eq_getElem (by rw[HB.out.lg];exact hlt)];rfl);have l4:=H6.out.hl.at 4 (.slice (some ⟨gx,0,none⟩) cs.length cs.length) rfl;have GF:=hid gf;clear hW6 c0 c1 c2 c3 c4 c5 l15 l1r hbit gf;cases hbr:L9 x.o
     ·have C1:Hid (∀w,Calls prog 36 #[.int .i64 x.o] w fun e w'=>e= .returned (.bool false)∧w=w'):=hid (fun w=>by have:=CB.out x.o w;rw[hbr]at this;exact this);have HE1:Hid (W9 set cs bl lo j=lo.getD j false):=hid (by rw[HRB.out,hbr];simp);have k0:=HB6.out.at 0 (.int .i64 x.o) rfl;clear g0 l4;exact A8l
     cases hlb:lo.getD j false
     ·rw[hlb]at g0;obtain⟨k,m,ht1,ht2,ht3,ht4⟩:=HT0.out hbr;have hto:toF set cs bl lo x=D4 set cs lo m:=by unfold toF;rw[ht1,Int.toNat_natCast,ht3,Int.toNat_natCast]
      have hsx:=H6.out.hs.at j (.int .i64 (D4 set cs lo j:Nat)) (by rw[←L7 set cs lo (Nat.le_of_lt hlt),List.getElem?_map,List.getD_eq_getElem?_getD,List.getElem?_eq_getElem (by rw[J3];omega)];rfl);have l0:=H6.out.hl.at 0 (.iface T (.agg #[])) rfl;have l3:=H6.out.hl.at 3 (.slice (some ⟨sx,0,none⟩) (cs.length+1) (cs.length+1)) rfl;have C1:Hid (∀w,Calls prog 36 #[.int .i64 x.o] w fun e w'=>e= .returned (.bool true)∧w=w'):=hid (fun w=>by have:=CB.out x.o w;rw[hbr]at this;exact this);have CT:Hid (∀w',Since W6 w'→Calls prog 37 #[.pointer (some ⟨w2.heap.size,0,none⟩),.agg #[.int .i64 x.o,.int .i64 x.d,.int .i64 x.a,.int .i64 x.b,.int .u32 x.i,.int .i64 x.t]] w' fun e w''=>e= .returned (.int .i64 (toF set cs bl lo x:Nat))∧Below w'.heap.size w' w''):=hid (fun w' h=>by
       have:=A1f B0 w2.heap.size b cb d db sx gx cs bl (F4 set cs lo) lo1 x k m ht1 ht2 ht3 ht4 w' (H6.out.below h);rw[L7 _ _ _ ht4,←hto]at this;exact this)
      have hq1:=HOF.out lo j (by omega);have hq2:=HOF.out lo m ht4;rw[←hto]at hq2;have CR1:=hid (CR.out x (D4 set cs lo j:Nat) (toF set cs bl lo x:Nat) (by omega) (by omega));have r0:∀wk,Since W6 wk→wk.cell? ⟨w2.heap.size,0,none⟩=some (.iface T (.agg #[])):=fun wk h=>h.cell l0
      have r3:∀wk,Since W6 wk→wk.cell? ⟨w2.heap.size,3,none⟩=some (.slice (some ⟨sx,0,none⟩) (cs.length+1) (cs.length+1)):=fun wk h=>h.cell l3
      have r4:∀wk,Since W6 wk→wk.cell? ⟨w2.heap.size,4,none⟩=some (.slice (some ⟨gx,0,none⟩) cs.length cs.length):=fun wk h=>h.cell l4
      have r5:∀wk,Since W6 wk→wk.cell? ⟨gx,j,none⟩=some (.bool false):=fun wk h=>h.cell g0
      have r6:∀wk,Since W6 wk→wk.cell? ⟨sx,j,none⟩=some (.int .i64 (D4 set cs lo j:Nat)):=fun wk h=>h.cell hsx
      have y0:=HB6.out.at 0 (.int .i64 x.o) rfl;have k0:∀wk,Since W6 wk→wk.cell? ⟨wr.heap.size,0,none⟩=some (.int .i64 x.o):=fun wk h=>h.cell y0
      have y1:=HB6.out.at 1 (.int .i64 x.d) rfl;have k1:∀wk,Since W6 wk→wk.cell? ⟨wr.heap.size,1,none⟩=some (.int .i64 x.d):=fun wk h=>h.cell y1
      have y2:=HB6.out.at 2 (.int .i64 x.a) rfl;have k2:∀wk,Since W6 wk→wk.cell? ⟨wr.heap.size,2,none⟩=some (.int .i64 x.a):=fun wk h=>h.cell y2
      have y3:=HB6.out.at 3 (.int .i64 x.b) rfl;have k3:∀wk,Since W6 wk→wk.cell? ⟨wr.heap.size,3,none⟩=some (.int .i64 x.b):=fun wk h=>h.cell y3
      have y4:=HB6.out.at 4 (.int .u32 x.i) rfl;have k4:∀wk,Since W6 wk→wk.cell? ⟨wr.heap.size,4,none⟩=some (.int .u32 x.i):=fun wk h=>h.cell y4
      have y5:=HB6.out.at 5 (.int .i64 x.t) rfl;have k5:∀wk,Since W6 wk→wk.cell? ⟨wr.heap.size,5,none⟩=some (.int .i64 x.t):=fun wk h=>h.cell y5
      have h00:=Since.refl W6;have hltb:=B6 y0;have hg6:=B6 g0;have hj2:(j:Int)<(cs.length:Int)+1:=by omega
      have L4:=hid l4;have G0:=hid g0;clear y0 y1 y2 y3 y4 y5 l0 l3 l4 g0 hsx ht1 ht2 ht3 ht4 hto hq1 hq2;generalize hpn:D4 set cs lo j=pn at*
      generalize hqn:toF set cs bl lo x=qn at*
      have hm:=HML.out;simp only[String.reducePush,String.reduceAppend,Nat.reduceAdd]at hm;have hcf:=HCF.out;cases hre:A0e set x.o (pn:Int) (qn:Int)
      ·have CR2:Hid (∀w,Calls prog FR #[.agg #[],.agg #[.int .i64 x.o,.int .i64 x.d,.int .i64 x.a,.int .i64 x.b,.int .u32 x.i,.int .i64 x.t],.int .i64 (pn:Nat),.int .i64 (qn:Nat)] w fun e w'=>e= .returned (.bool false)∧Below w.heap.size w w'):=hid (fun w=>by have:=CR1.out w;rw[hre]at this;exact this)
       go_region_held3(fun wk=>Since W6 wk) (first|assumption|exact Since.drew (by assumption)) (first|(go_at_call 36;with_reducible refine(C1.out _).mono ?_;rintro e w3 ⟨rfl,rfl⟩)|(go_at_call 37;with_reducible refine(CT.out _ (by assumption)).mono ?_;rintro e w3 ⟨rfl,hb3⟩;have hs1:=Since.next (by assumption) hb3)|(with_reducible refine(CR2.out _).mono ?_;rintro e w4 ⟨rfl,hb4⟩;have hs2:=Since.next (by assumption) hb4))
       all_goals
        have hS4:Since W6 w4:=by assumption
        have HS4:=hid hS4;have HE1:Hid (W9 set cs bl lo j=true):=hid (by rw[HRB.out,hre,hbr];simp);have l44:=hS4.cell L4.out;have g44:=hS4.cell G0.out;have gf4:=Since.free hS4 hg6 GF.out;have HN:Hid (LayW T B0 w2.heap.size b cb d db sx gx cs bl (F4 set cs lo) (lo1.set j true) (w4.setCell ⟨gx,j,none⟩ (.bool true))):=hid ((H6.out.below hS4).setG HLT.out true);have HCt:Hid ((lo1.set j true).count false<lo.count false):=hid (by
         have h1:=q9 lo1 j (by rw[HB.out.lg];exact HLT.out) (HBIT.out.trans hlb);rcases hag with⟨_,e⟩|⟨_,e⟩
         ·have:=e.out;subst this;omega
         ·have:=e.out;omega)
        have HWG:Hid (w.heap.size≤gx):=hid (by have:=H6.out.hn;have:=HWB.out;omega);clear hS4 h00 hs1 hs2 hb3 hb4 r0 r3 r4 r5 r6 k0 k1 k2 k3 k4 k5 hm hcf;go_wp2_with fail
        go_roundw
        case rel=>exact⟨j+1,lo1.set j true,by omega,by go_num,HN,hid (A9 (A8 HW6.out HS4.out) HWG.out _ _),hid (HRT.out.put HLT.out HE1.out),.inr ⟨rfl,HCt⟩⟩
        case measure=>simp[intOf];omega
      ·have CR2:Hid (∀w,Calls prog FR #[.agg #[],.agg #[.int .i64 x.o,.int .i64 x.d,.int .i64 x.a,.int .i64 x.b,.int .u32 x.i,.int .i64 x.t],.int .i64 (pn:Nat),.int .i64 (qn:Nat)] w fun e w'=>e= .returned (.bool true)∧Below w.heap.size w w'):=hid (fun w=>by have:=CR1.out w;rw[hre]at this;exact this)
       go_region_held3(fun wk=>Since W6 wk) (first|assumption|exact Since.drew (by assumption)) (first|(go_at_call 36;with_reducible refine(C1.out _).mono ?_;rintro e w3 ⟨rfl,rfl⟩)|(go_at_call 37;with_reducible refine(CT.out _ (by assumption)).mono ?_;rintro e w3 ⟨rfl,hb3⟩;have hs1:=Since.next (by assumption) hb3)|(with_reducible refine(CR2.out _).mono ?_;rintro e w4 ⟨rfl,hb4⟩;have hs2:=Since.next (by assumption) hb4))
       all_goals
        have hS4:Since W6 w4:=by assumption
        have HS4:=hid hS4;have HE1:Hid (W9 set cs bl lo j=lo.getD j false):=hid (by rw[HRB.out,hre,hlb];simp);clear hS4 h00 hs1 hs2 hb3 hb4 r0 r3 r4 r5 r6 k0 k1 k2 k3 k4 k5 hm hcf;go_wp2_with fail
        go_roundw
        case rel=>exact⟨j+1,lo1,by omega,by go_num,hid (H6.out.below HS4.out),hid (A8 HW6.out HS4.out),hid (HRT.out.keep HLT.out HE1.out),hag⟩
        case measure=>simp[intOf];omega
     ·rw[hlb]at g0;have C1:Hid (∀w,Calls prog 36 #[.int .i64 x.o] w fun e w'=>e= .returned (.bool true)∧w=w'):=hid (fun w=>by have:=CB.out x.o w;rw[hbr]at this;exact this);have HE1:Hid (W9 set cs bl lo j=lo.getD j false):=hid (by rw[HRB.out,hlb];rfl);have k0:=HB6.out.at 0 (.int .i64 x.o) rfl;exact A8l
    ·obtain rfl:j=cs.length:=by omega
     have hd:decide ((cs.length:Int)<(cs.length:Int))=false:=decide_eq_false (by omega);have HD:=hid HRT.out.done;clear l15;rcases hag with⟨rfl,HE⟩|⟨rfl,HE⟩
     ·go_wp2_with fail
      go_roundw
      case rel=>exact⟨lo1,_,HB,HBb,.inr ⟨rfl,by rw[HE.out];exact hid rfl,hid (by have e:=HD.out;rw[HE.out]at e;rw[HE.out];exact⟨HRn.out,e.symm⟩)⟩⟩
      case measure=>rw[HFA.out,HB.out.fal,HE.out];simp
     ·go_wp2_with fail
      go_roundw
      case rel=>exact⟨lo1,_,HB,HBb,.inl ⟨rfl,by obtain⟨k,hk⟩:=HRn.out;exact hid ⟨k+1,by rw[HD.out,hk];rfl⟩⟩⟩
      case measure=>rw[HFA.out,HB.out.fal];have:=HE.out;simp;omega
  ·go_wp2_with fail
   refine bodyPost_ret (v:=.tuple #[.pointer (some ⟨w2.heap.size,0,none⟩),.int .i64 0]) (by simp[results,results35,go_sem]) rfl ⟨.inr ⟨HZ.out,w2.heap.size,lo,rfl,B0,b,cb,d,db,sx,gx,?_⟩,HBq.out⟩;rw[hcs,hbl,hT,←HST.out];exact⟨HA.out,HRX.out⟩
 ):p:=h
set_option maxHeartbeats 4000000 in
theorem M7(set regs:Int)(bs:List (List Cd))(v:Value)(w:World)(hv:Bls w v bs)(h0:toC bs≤500)(h1:bs.length≤500)(hi:A0M bs):Calls prog 35 #[.int .i64 set,.agg #[.int .i64 regs,v]] w (A3w set regs bs w):=by
 have HV:=hid hv;obtain⟨va,vc,rfl,hl1,hl2⟩:=hv.shape;obtain⟨W1,hW1⟩:∃W,w.alloc (.cells #[.int .i64 regs,.slice va bs.length vc] 24)=W:=⟨_,rfl⟩
 have BB:Hid (Below w.heap.size w W1):=by rw[←hW1];exact(Below.refl _ _).alloc (Nat.le_refl _) _
 have hs:w.heap.size<W1.heap.size:=by rw[←hW1];simp
 have p0:W1.cell? ⟨w.heap.size,0,none⟩=some (.int .i64 regs):=by rw[←hW1];simp[go_sem]
 have p1:W1.cell? ⟨w.heap.size,1,none⟩=some (.slice va bs.length vc):=by rw[←hW1];simp[go_sem]
 have P1:=hid p1;have HV1:Hid (Bls W1 (.slice va bs.length vc) bs):=hid (HV.out.stays BB.out);have C1:=hid (A8T set regs bs _ W1 HV1.out h0 h1);have HA:=hid (@A0J set regs bs);unfold A3w;clear hv;by_cases hz:F3 set regs bs=0
 ·obtain⟨hsr,hvp⟩:=HA.out hz;have HSR:=hid hsr;have HPC:=hid (d9 hvp hi);obtain⟨hsz,hcd,hru⟩:=M8 hvp;have hb0:0<bs.length:=by unfold H3 at hsz;omega
  have HN0:Hid (0<toC bs):=hid (by
   have h0:=(hru 0 hb0).1;have h1:toC (bs.take 1)=toC (bs.take 0)+(bs.getD 0 []).length:=O5 hb0;have h2:=T9 (bs:=bs) 1;have e:toC (bs.take 0)=0:=rfl;omega)
  have HNE:Hid (∀j,j<bs.length→0<(bs.getD j []).length):=hid fun j hj=>by have:=(hru j hj).1;omega
  have C2:Hid (Calls prog 71 #[.int .i64 set,.agg #[.int .i64 regs,.slice va bs.length vc]] W1 fun e w'=>e= .returned (.tuple #[.iface (tS set) (.agg #[]),.int .i64 0])∧Below W1.heap.size W1 w'):=hid (C1.out.mono fun e w' h=>⟨h.1.elim (fun h=>absurd hz h.1) (fun h=>by rw[h.2,A7F]),h.2⟩);have HZ:=hid hz;clear hz hsr hvp hsz hcd hru C1 HA;go_enter func35,ntmps35;go_wp2_with(go_at_call 71;(with_reducible refine C2.out.mono ?_);rintro e w2 ⟨rfl,hb2⟩;have p1b:=A7 hb2 hs P1.out;have hl2:=B6 p1b;have hne2:¬w.heap.size=w2.heap.size:=(by omega);have HB2:=hid hb2;clear hb2 p0 p1)
  generalize hW3:w2.alloc (.cells #[.iface (tS set) (.agg #[]),.slice none 0 0,.slice none 0 0,.slice none 0 0,.slice none 0 0] 105)=W3;have B3:Hid (Below w2.heap.size w2 W3):=by rw[←hW3];exact(Below.refl _ _).alloc (Nat.le_refl _) _
  have hs3:W3.heap.size=w2.heap.size+1:=by rw[←hW3];simp
  have HL:Hid (Cls W3 w2.heap.size [.iface (tS set) (.agg #[]),.slice none 0 0,.slice none 0 0,.slice none 0 0,.slice none 0 0]):=by rw[←hW3];exact Cls.made
  have p13:=A7 B3.out hl2 p1b;have hBq:Hid (Below w.heap.size w w2):=A8 BB.out HB2.out;clear hW3 p1b
  go_loopw[10,29] (fun _ i wr=>∃(j:Nat) (cv bv:Value),j≤bs.length∧i= .int .i64 (j:Nat)∧Hid (Cls wr w2.heap.size [.iface (tS set) (.agg #[]),cv,bv,.slice none 0 0,.slice none 0 0])∧Hid (RowsL w2.heap.size j bs cv bv wr)∧Hid (Below w2.heap.size w2 wr)∧Hid (w2.heap.size<wr.heap.size)) (fun _ i _=>bs.length-(intOf i).toNat)
  case atStart=>exact⟨0,.slice none 0 0,.slice none 0 0,Nat.zero_le _,rfl,HL,hid (RowsL.begin _ _ _),B3,hid (by omega)⟩
  case round=>
   obtain⟨j,cv,bv,hj,rfl,HLr,HRr,HBr,HSz⟩:=hrel;obtain⟨⟨ca,cc,rfl⟩,⟨ba,bc,rfl⟩⟩:=HRr.out.shape hj;by_cases hlt:j<bs.length
   ·obtain⟨b0,q0,c0,u,ua,uc,e',hc0,hb0',x0w,rfl,hcds⟩:=HV.out.at hlt;cases e';have x0:=A7 (A8 hBq.out HBr.out) hb0' x0w;obtain⟨bb,qq,cq,e2,hbb⟩:=hcds.ad (HNE.out j hlt);cases e2;clear x0w;have HCD:=hid hcds;have HNm:=hid (HNE.out j hlt);have hlt':(j:Int)<(bs.length:Int):=Int.ofNat_lt.2 hlt;have l1:=HLr.out.at 1 (.slice ca (toC (bs.take j)) cc) rfl;have l2:=HLr.out.at 2 (.slice ba j bc) rfl;have f2:=HLr.out.at' 2 (.slice ba j bc) rfl;obtain⟨i0,hi0,hz0,hz1,hz2⟩:=info_parts V1;have hLW:=HSz.out;have hLne:¬w2.heap.size=wr.heap.size:=by omega
    have hsn:=O5 hlt;have HTE:=hid (T9 (bs:=bs) (j+1));have HSN:=hid hsn;clear hcds hsn;generalize hkn:toC (bs.take j)=kn at*
    generalize hmn:(bs.getD j []).length=mn at*
    go_wp2_with fail
    go_region_law((refine step_append_lies _ (by rfl) _ _ _ (by rfl) (w2.heap.size+1) 3 i0 (.int .i64 0) 1 8 underlying54 hi0 hz0 hz1 hz2 rfl (by decide) (.slice ba j bc) j (((blS bs).take j).map (Value.int .i64)) (by rfl) (RowI.own (RowI.below HRr.out.hb (((Below.refl _ _).alloc (Nat.le_refl _) _))) (by rw[List.length_take,L8];omega)) ⟨wr.heap.size,0,none⟩ 1 1 [.int .i64 (kn:Nat)] (by rfl) (by rfl) (World.news_of_block (cs:=#[.int .i64 (kn:Nat)]) (t:=3) (fr:=(0,0)) (show _ from Array.getElem?_push_size)) (by simp[Value.oneCell']) (by decide) (by unfold maxLen;omega) (by omega) (by simp;omega) (wr.heap.size+1) (by simp) ?_);intro gg cap w4 hown4 hgrow4 hat4 hlt4;have HC4:=hid ((HLr.out.below hLW ((Below.refl _ _).alloc (Nat.le_refl _) (.cells #[.int .i64 (kn:Nat)] 3))).block (hgrow4.block w2.heap.size (by simp;omega) (by have:=HRr.out.hb;intro hh;have:=(H5 this _ hh.symm).1;omega):w4.heap[w2.heap.size]? =(wr.alloc (.cells #[.int .i64 (kn:Nat)] 3)).heap[w2.heap.size]?));have l24:=HC4.out.at 2 (.slice ba j bc) rfl;have f24:=HC4.out.at' 2 (.slice ba j bc) rfl)
    all_goals
     have hB4:Hid (Below w2.heap.size w2 (w4.setCell ⟨w2.heap.size,2,none⟩ (.slice (some ⟨gg,0,none⟩) (j+1) cap))):=hid (A9 (Below.grown (B:=w2.heap.size) ((HBr.out.alloc (by omega) (.cells #[.int .i64 (kn:Nat)] 3)).drew) hgrow4 (by show w2.heap.size≤(wr.alloc _).heap.size;simp;omega) (fun k hk=>by have:=(H5 HRr.out.hb k hk).1;omega)) (Nat.le_refl _) _ _);have HC5:Hid (Cls (w4.setCell ⟨w2.heap.size,2,none⟩ (.slice (some ⟨gg,0,none⟩) (j+1) cap)) w2.heap.size [.iface (tS set) (.agg #[]),.slice ca kn cc,.slice (some ⟨gg,0,none⟩) (j+1) cap,.slice none 0 0,.slice none 0 0]):=HC4.out.set (k:=2) (by simp) _;have HR5:=hid (HRr.out.blocks hlt hkn hown4 (z6 hgrow4) hat4 (.slice (some ⟨gg,0,none⟩) (j+1) cap));have hl5:w2.heap.size<(w4.setCell ⟨w2.heap.size,2,none⟩ (.slice (some ⟨gg,0,none⟩) (j+1) cap)).heap.size:=HC5.out.lt (by simp);have HCD5:=hid (HCD.out.stays (A8 hBq.out hB4.out));clear l24 f24 hown4 hgrow4 hat4 hlt4 l1 l2 f2 x0;generalize w4.setCell ⟨w2.heap.size,2,none⟩ (.slice (some ⟨gg,0,none⟩) (j+1) cap)=W5 at*
     have l15:=HC5.out.at 1 (.slice ca kn cc) rfl;obtain⟨ic,hic,hcz,hcs,hcb⟩:=info_parts A5A;have hj1:IntKind.i64.wrap ((j:Int)+1)=((j+1:Nat):Int):=by rw[IntWalk.i64_left];exact IntWalk.wrap64_in _ (by omega)
     go_wp2_with(at_builtin;refine wpList_append_lies _ rfl _ _ _ rfl (w2.heap.size+1) 61 ic _ 6 48 underlying59 hic hcz hcs hcb rfl (by decide) (.slice ca kn cc) kn ((bs.take j).flatten.flatMap cdC) rfl (RowG.own HR5.out.1 (by rw[S0];exact hkn)) ⟨bb,qq,none⟩ mn uc ((bs.getD j []).flatMap cdC) rfl (by rw[A1P,hmn]) (Cds.news HCD5.out) (A6Y _) HNm.out (by have:=HSN.out;have:=HTE.out;unfold maxLen;omega) (by have:=HSN.out;have:=HTE.out;omega) (by omega) W5.heap.size rfl (fun gc capc w6 ho6 hg6 hat6 hl6=>?_);have HC6:=hid (HC5.out.block (hg6.block w2.heap.size hl5 (by intro hh;have:=(H5 HR5.out.1 _ hh.symm).1;omega)));have l16:=HC6.out.at 1 (.slice ca kn cc) rfl;have f16:=HC6.out.at' 1 (.slice ca kn cc) rfl)
     exact⟨⟨j+1,.slice (some ⟨gc,0,none⟩) (kn+mn) capc,.slice (some ⟨gg,0,none⟩) (j+1) cap,by omega,by go_num,hid (HC6.out.set (k:=1) (by simp) _),hid (RowsL.code hlt HR5.out.1 HR5.out.2.1 HR5.out.2.2 (by rw[hkn,hmn]) ho6 hg6 hat6 _),hid (A9 (Below.grown (B:=w2.heap.size) hB4.out hg6 (by omega) (fun k hk=>by have:=(H5 HR5.out.1 k hk).1;omega)) (Nat.le_refl _) _ _),hid (by have:=HC6.out.lt (by simp);simp;omega)⟩,by simp[intOf];omega⟩
   ·obtain rfl:j=bs.length:=by omega
    have hd:decide ((bs.length:Int)<(bs.length:Int))=false:=decide_eq_false (by omega);have l1:=HLr.out.at 1 (.slice ca (toC (bs.take bs.length)) cc) rfl;have l3:=HLr.out.at 3 (.slice none 0 0) rfl;have g3:=HLr.out.at' 3 (.slice none 0 0) rfl;have l4:=HLr.out.at 4 (.slice none 0 0) rfl;have g4:=HLr.out.at' 4 (.slice none 0 0) rfl;have hlL:=HSz.out;have htt:toC (bs.take bs.length)=toC bs:=by rw[List.take_length]
    rw[htt]at l1 HLr HRr;obtain⟨n1,HN1,hn1⟩:∃n1:Nat,Hid (n1=toC bs+1)∧IntKind.i64.wrap ((toC bs:Int)+1)=(n1:Int):=⟨toC bs+1,hid rfl,by rw[IntWalk.i64_left];rw[IntWalk.wrap64_in _ (by omega)];rfl⟩
    generalize hkn:toC bs=kn at*
    have hm1:∀w:World,(Instr.makeSlice 54 (.int .i64 (n1:Int)) (.int .i64 (n1:Int))).run prog w= .ok (.slice (some ⟨w.heap.size,0,none⟩) n1 n1) (w.alloc (.cells (madeCells #[.int .i64 0] n1) 3)):=fun w=>run_make_row' 54 3 (.int .i64 0) 8 underlying54 V1 rfl .i64 .i64 n1 (by have:=HN1.out;omega) (by have:=HN1.out;omega) w
    have hm2:∀w:World,(Instr.makeSlice 103 (.int .i64 (kn:Int)) (.int .i64 (kn:Int))).run prog w= .ok (.slice (some ⟨w.heap.size,0,none⟩) kn kn) (w.alloc (.cells (madeCells #[.bool false] kn) 4)):=fun w=>run_make_row' 103 4 (.bool false) 1 underlying103 A6T rfl .i64 .i64 kn (by omega) (by omega) w
    rw[T5]at hm1 hm2;go_wp2_with fail
    go_region
    all_goals clear hm1 hm2 l1 l3 g3 l4 g4
    ·generalize hst:(wr.setCell ⟨w2.heap.size,3,none⟩ (.slice (some ⟨wr.heap.size,0,none⟩) n1 n1)).setCell ⟨w2.heap.size,4,none⟩ (.slice (some ⟨wr.heap.size+1,0,none⟩) kn kn)=Wst;have hsz2:Wst.heap.size=wr.heap.size:=by rw[←hst];simp
     obtain⟨B0,hB0⟩:∃B0,B0=wr.heap.size:=⟨_,rfl⟩
     obtain⟨c1,c2⟩:=A0E (W:=Wst) (xs:=(List.replicate n1 (Value.int .i64 0))) (ys:=(List.replicate kn (Value.bool false))) (t:=3) (u:=4);simp only[List.toArray_replicate,hsz2]at c1 c2;obtain⟨b,cb,d,db,hlay⟩:=LayW.made (T:=tS set) hB0 (s:=wr.heap.size) (g:=wr.heap.size+1) (W':=((Wst.alloc (.cells (Array.replicate n1 (.int .i64 0)) 3)).alloc (.cells (Array.replicate kn (.bool false)) 4)).drew) (HN1.out.trans (by rw[hkn])) hkn.symm HLr.out HRr.out hb0 (by have:=HN0.out;omega) (by omega) (by omega) (by omega) (by omega) hst.symm ((((Below.refl _ _).alloc (Nat.le_refl _) _).alloc (by simp) _).drew) c1 c2;have HLay:=hid hlay;have HBz:Hid (Below w.heap.size w (((Wst.alloc (.cells (Array.replicate n1 (.int .i64 0)) 3)).alloc (.cells (Array.replicate kn (.bool false)) 4)).drew)):=by
      have h2:Below w2.heap.size w2 Wst:=by rw[←hst];exact A9 (A9 HBr.out (Nat.le_refl _) _ _) (Nat.le_refl _) _ _
      exact A8 hBq.out (((h2.alloc (by omega) _).alloc (by simp;omega) _).drew)
     clear hst hsz2 hlay c1 c2;generalize((Wst.alloc (.cells (Array.replicate n1 (.int .i64 0)) 3)).alloc (.cells (Array.replicate kn (.bool false)) 4)).drew=Wz at*
     generalize hgx:wr.heap.size+1=gx at HLay⊢;generalize hsx:wr.heap.size=sx at HLay⊢;exact A6l
    ·generalize hst:(wr.setCell ⟨w2.heap.size,3,none⟩ (.slice (some ⟨wr.heap.size+1,0,none⟩) n1 n1)).setCell ⟨w2.heap.size,4,none⟩ (.slice (some ⟨wr.heap.size,0,none⟩) kn kn)=Wst;have hsz2:Wst.heap.size=wr.heap.size:=by rw[←hst];simp
     obtain⟨B0,hB0⟩:∃B0,B0=wr.heap.size:=⟨_,rfl⟩
     obtain⟨c1,c2⟩:=A0E (W:=Wst) (xs:=(List.replicate kn (Value.bool false))) (ys:=(List.replicate n1 (Value.int .i64 0))) (t:=4) (u:=3);simp only[List.toArray_replicate,hsz2]at c1 c2;obtain⟨b,cb,d,db,hlay⟩:=LayW.made (T:=tS set) hB0 (s:=wr.heap.size+1) (g:=wr.heap.size) (W':=((Wst.alloc (.cells (Array.replicate kn (.bool false)) 4)).alloc (.cells (Array.replicate n1 (.int .i64 0)) 3)).drew) (HN1.out.trans (by rw[hkn])) hkn.symm HLr.out HRr.out hb0 (by have:=HN0.out;omega) (by omega) (by omega) (by omega) (by omega) hst.symm ((((Below.refl _ _).alloc (Nat.le_refl _) _).alloc (by simp) _).drew) c2 c1;have HLay:=hid hlay;have HBz:Hid (Below w.heap.size w (((Wst.alloc (.cells (Array.replicate kn (.bool false)) 4)).alloc (.cells (Array.replicate n1 (.int .i64 0)) 3)).drew)):=by
      have h2:Below w2.heap.size w2 Wst:=by rw[←hst];exact A9 (A9 HBr.out (Nat.le_refl _) _ _) (Nat.le_refl _) _ _
      exact A8 hBq.out (((h2.alloc (by omega) _).alloc (by simp;omega) _).drew)
     clear hst hsz2 hlay c1 c2;generalize((Wst.alloc (.cells (Array.replicate kn (.bool false)) 4)).alloc (.cells (Array.replicate n1 (.int .i64 0)) 3)).drew=Wz at*
     generalize hsx:wr.heap.size+1=sx at HLay⊢;generalize hgx:wr.heap.size=gx at HLay⊢;exact A6l
 ·have C2:Hid (Calls prog 71 #[.int .i64 set,.agg #[.int .i64 regs,.slice va bs.length vc]] W1 fun e w'=>e= .returned (.tuple #[.nilIface,.int .i64 (F3 set regs bs)])∧Below W1.heap.size W1 w'):=hid (C1.out.mono fun e w' h=>⟨h.1.elim (fun h=>h.2) (fun h=>absurd h.1 hz),h.2⟩);have d1:(F3 set regs bs !=0)=true:=by simpa using hz
  generalize F3 set regs bs=q at*
  go_enter func35,ntmps35;go_wp2_with(go_at_call 71;(with_reducible refine C2.out.mono ?_);rintro e w2 ⟨rfl,hb2⟩;have HB2:=hid hb2;clear hb2)
  refine bodyPost_ret (v:=.tuple #[.pointer none,.int .i64 q]) (by simp[results,results35,go_sem]) rfl ⟨.inl ⟨hz,rfl⟩,A8 BB.out HB2.out⟩
set_option maxHeartbeats 1000000 in
theorem A2O(xs:List Int)(v:Value)(w:World)(hv:Ints .i64 w v xs)(h0:0<xs.length)(h1:xs.length≤50000):Calls prog 51 #[v] w fun e w'=>∃v,e= .returned v∧RowI w' w.heap.size 3 .i64 v xs∧Below w.heap.size w w':=by
 obtain⟨i0,hi0,hz0,hz1,hz2⟩:=info_parts V1;have HV:=hid hv;obtain⟨b,q,c,rfl,_,hbl,_⟩:=hv.at h0;have HR0:=hid (RowI.lit w #[] [] .i64 3 w.heap.size 0 (Nat.le_refl _) rfl rfl (by unfold maxLen;simp));have HB:=hid ((Below.refl w.heap.size w).alloc (Nat.le_refl _) (.cells #[] 3));clear hv;have hnl:∀w,(binOp .eql 54 (.slice (some ⟨b,q,none⟩) xs.length c) (.slice none 0 0)).run prog w= .ok (.bool false) w:=fun w=>Lib.run_eql_slice_nil w 54 3 (some ⟨b,q,none⟩) xs.length c 0 0 underlying54
 go_enter func51,ntmps51;go_wp2_with(at_builtin;go_must (refine L0 rfl _ _ 54 rfl w.heap.size 3 i0 8 underlying54 hi0 hz0 hz1 hz2 (by decide) _ [] rfl HR0.out _ xs rfl (HV.out.stays HB.out) h0 ?c1 ?c2 ?_))
 case c1=>simp;omega
 case c2=>simp
 intro v' w' hr hb;have HR:=hid hr;have HB2:=hid (HB.out.trans hb);clear hr hb;go_wp2_with fail
 go_ret;exact⟨_,rfl,HR.out,HB2.out⟩
theorem LayW.ints{T:TypeId}{B L b cb d db s g:Nat}{cs:List Cd}{bl:List Int}{st:List Nat}{lo:List Bool}{w:World}(h:LayW T B L b cb d db s g cs bl st lo w):Ints .i64 w (.slice (some ⟨s,0,none⟩) (cs.length+1) (cs.length+1)) (st.map fun n:Nat=>(n:Int)):=by
 have hl:(st.map fun n:Nat=>(n:Int)).length=cs.length+1:=by rw[List.length_map,h.ls]
 have hsl:=h.hs.lt (by rw[List.length_map,h.ls];omega);have:=h.hn;refine⟨some ⟨s,0,none⟩,cs.length+1,by rw[hl],by omega,⟨by omega,by omega⟩,fun hh=>(by cases hh),fun i hi=>⟨s,0,rfl,hsl,?_⟩⟩;have h1:=h.hs.at i (.int .i64 ((st.map fun n:Nat=>(n:Int)).getD i 0)) (by
  rw[List.getElem?_map,List.getD_eq_getElem?_getD,List.getElem?_map];rw[List.getElem?_eq_getElem (by rw[h.ls];omega)];rfl)
 rw[Nat.mul_one,Nat.zero_add];exact h1
set_option maxHeartbeats 4000000 in
theorem A2a(set regs:Int)(bs:List (List Cd))(v:Value)(w:World)(hv:Bls w v bs)(h0:toC bs≤500)(h1:bs.length≤500)(hi:A0M bs):Calls prog 15 #[.int .i64 set,.agg #[.int .i64 regs,v]] w fun e w'=>((F3 set regs bs≠0∧e= .returned (.tuple #[.slice none 0 0,.int .i64 (F3 set regs bs)]))∨(F3 set regs bs=0∧∃lo u,Relx set bs.flatten (blS bs) lo∧e= .returned (.tuple #[u,.int .i64 0])∧RowI w' w.heap.size 3 .i64 u ((F4 set bs.flatten lo).map fun n:Nat=>(n:Int))))∧Below w.heap.size w w':=by
 have HV:=hid hv;obtain⟨va,vc,rfl,hl1,hl2⟩:=hv.shape;obtain⟨W1,hW1⟩:∃W,w.alloc (.cells #[.int .i64 regs,.slice va bs.length vc] 24)=W:=⟨_,rfl⟩
 have BB:Hid (Below w.heap.size w W1):=by rw[←hW1];exact(Below.refl _ _).alloc (Nat.le_refl _) _
 have hs:w.heap.size<W1.heap.size:=by rw[←hW1];simp
 have p0:W1.cell? ⟨w.heap.size,0,none⟩=some (.int .i64 regs):=by rw[←hW1];simp[go_sem]
 have p1:W1.cell? ⟨w.heap.size,1,none⟩=some (.slice va bs.length vc):=by rw[←hW1];simp[go_sem]
 have C1:=hid (M7 set regs bs _ W1 (HV.out.stays BB.out) h0 h1 hi);unfold A3w at C1;clear hv;by_cases hz:F3 set regs bs=0
 rotate_left
 ·have C2:Hid (Calls prog 35 #[.int .i64 set,.agg #[.int .i64 regs,.slice va bs.length vc]] W1 fun e w'=>e= .returned (.tuple #[.pointer none,.int .i64 (F3 set regs bs)])∧Below W1.heap.size W1 w'):=hid (C1.out.mono fun e w' h=>⟨h.1.elim (fun h=>h.2) (fun h=>absurd h.1 hz),h.2⟩);have d1:(F3 set regs bs !=0)=true:=by simpa using hz
  generalize F3 set regs bs=q at*
  clear C1;go_enter func15,ntmps15;go_wp2_with(go_at_call 35;(with_reducible refine C2.out.mono ?_);rintro e w2 ⟨rfl,hb2⟩;have HB2:=hid hb2;clear hb2)
  refine bodyPost_ret (v:=.tuple #[.slice none 0 0,.int .i64 q]) (by simp[results,results15,go_sem]) rfl ⟨.inl ⟨hz,rfl⟩,A8 BB.out HB2.out⟩
 ·have C2:Hid (Calls prog 35 #[.int .i64 set,.agg #[.int .i64 regs,.slice va bs.length vc]] W1 fun e w'=>∃L lo B b cb d db s g,e= .returned (.tuple #[.pointer (some ⟨L,0,none⟩),.int .i64 0])∧LayW (tS set) B L b cb d db s g bs.flatten (blS bs) (F4 set bs.flatten lo) lo w'∧Relx set bs.flatten (blS bs) lo∧Below W1.heap.size W1 w'):=hid (C1.out.mono fun e w' h=>by
   rcases h.1 with h2|⟨_,L,lo,e1,B,b,cb,d,db,s,g,hl,hr⟩
   ·exact absurd hz h2.1
   ·exact⟨L,lo,B,b,cb,d,db,s,g,e1,hl,hr,h.2⟩)
  have HZ:=hid hz;have HFL:=hid (E6 bs);clear C1 hz;generalize hcs:bs.flatten=cs at*
  generalize hbl:blS bs=bl at*
  go_enter func15,ntmps15;go_wp2_with(go_at_call 35;(with_reducible refine C2.out.mono ?_);rintro e w2 ⟨L,lo,B,b,cb,d,db,s,g,rfl,hlay,hrx,hb2⟩;have HLY:=hid hlay;have HRX:=hid hrx;have HB2:=hid hb2;have l1:=hlay.hl.at 1 (.slice (some ⟨b,0,none⟩) cs.length cb) rfl;have l3:=hlay.hl.at 3 (.slice (some ⟨s,0,none⟩) (cs.length+1) (cs.length+1)) rfl;have l4:=hlay.hl.at 4 (.slice (some ⟨g,0,none⟩) cs.length cs.length) rfl;clear hlay hrx hb2 p0 p1)
  have hI:Hid (Ints .i64 w2 (.slice (some ⟨s,0,none⟩) (cs.length+1) (cs.length+1)) ((F4 set cs lo).map fun n:Nat=>(n:Int))):=hid HLY.out.ints;have hsz:=HLY.out.hn;have C3:=hid (A2O ((F4 set cs lo).map fun n:Nat=>(n:Int)) _ w2 hI.out (by rw[List.length_map,J3];omega) (by rw[List.length_map,J3];omega));clear hsz;go_wp2_with(go_at_call 51;(with_reducible refine C3.out.mono ?_);rintro e w3 ⟨u,rfl,hr3,hb3⟩;have HR3:=hid hr3;have HB3:=hid hb3;clear hr3 hb3)
  refine bodyPost_ret (v:=.tuple #[u,.int .i64 0]) (by simp[results,results15,go_sem]) rfl ⟨.inr ⟨HZ.out,lo,u,HRX.out,rfl,World.ownsRow.mono HR3.out (A8 BB.out HB2.out).size⟩,A8 (A8 BB.out HB2.out) HB3.out⟩
end Go.Proofs.YtajljbmeaeeknaaGreat
