/- -/
import Derived.Deep.CutRange
import Derived.Laws.BytesArg
import Derived.Laws.StructEq
import Derived.Laws.AppendOwnNone
import Derived.Test.YtajljbmeaeeknaaGreatA2
import Derived.Test.YtajljbmeaeeknaaGreatA10
import Derived.Test.YtajljbmeaeeknaaGreatA11
import Derived.Test.YtajljbmeaeeknaaGreatA16
import Derived.Test.YtajljbmeaeeknaaGreatA19
open Go.Proofs.Tryz
open Go.Lib (hid)
set_option maxHeartbeats 1000000
set_option maxRecDepth 100000
namespace Go.Proofs.YtajljbmeaeeknaaGreat
open Go.RowKit
set_option linter.unusedVariables false
set_option linter.unusedSimpArgs false
theorem A8x(c:Int)(hc:c=129∨c=131∨c=211∨c=247)(v:Value)(B n:Nat)(l:List Int)(z:Int)(w:World)(h:RdL w B v l n)(hby:Byt l)(hz:z=16∨z=32)(e:l.getD n 0=c):Calls prog 95 #[.pointer (some ⟨B,0,none⟩),.int .i64 z] w fun e w'=>e= .returned (L9 (Z5 (l.drop n) z).1)∧RdL w' B v l (n+(Z5 (l.drop n) z).2)∧But B w w':=by
 unfold Z5;simp only[k7,y9,Nat.add_zero,e];rcases hc with rfl|rfl|rfl|rfl
 ·rw[if_pos rfl];by_cases hg:0≤D1 129 (rF (l.getD (n+1) 0))
  ·rw[if_pos hg];rcases hz with rfl|rfl
   ·exact A1D v B n l w h hby e (decide_eq_true hg)
   ·exact A1C v B n l w h hby e (decide_eq_true hg)
  ·rw[if_neg hg,j9 (decide_eq_false hg)];rcases hz with rfl|rfl
   ·exact A1F v B n l w h hby e (decide_eq_false hg)
   ·exact A1E v B n l w h hby e (decide_eq_false hg)
 ·rw[if_neg (by decide),if_pos rfl];by_cases hg:0≤D1 131 (rF (l.getD (n+1) 0))
  ·rw[if_pos hg];rcases hz with rfl|rfl
   ·exact A0z v B n l w h hby e (decide_eq_true hg)
   ·exact A0y v B n l w h hby e (decide_eq_true hg)
  ·rw[if_neg hg,j9 (decide_eq_false hg)];rcases hz with rfl|rfl
   ·exact A1B v B n l w h hby e (decide_eq_false hg)
   ·exact A1A v B n l w h hby e (decide_eq_false hg)
 ·rw[if_neg (by decide),if_neg (by decide)];by_cases hg:0≤D1 211 (rF (l.getD (n+1) 0))
  ·rw[if_pos hg];exact A4t v B n l z w h hby e (decide_eq_true hg)
  ·rw[if_neg hg,j9 (decide_eq_false hg)];exact A4u v B n l z w h hby e (decide_eq_false hg)
 ·rw[if_neg (by decide),if_neg (by decide)];by_cases hg:0≤D1 247 (rF (l.getD (n+1) 0))
  ·rw[if_pos hg];exact A4r v B n l z w h hby e (decide_eq_true hg)
  ·rw[if_neg hg,j9 (decide_eq_false hg)];exact A4s v B n l z w h hby e (decide_eq_false hg)
theorem A4q(v:Value)(B n:Nat)(l:List Int)(z:Int)(w:World)(h:RdL w B v l n)(hby:Byt l)(hz:z=16∨z=32):Calls prog 95 #[.pointer (some ⟨B,0,none⟩),.int .i64 z] w fun e w'=>e= .returned (L9 (gsP (l.drop n) z).1)∧RdL w' B v l (n+(gsP (l.drop n) z).2)∧But B w w':=by
 have hc0:=(hby n).1;have hc1:=(hby n).2;unfold gsP;simp only[k7,y9,Nat.add_zero];by_cases ho:0≤J1 (l.getD n 0)
 ·rw[if_pos ho];by_cases hl:l.getD n 0<144
  ·rw[if_pos hl];exact A3N v B n l z w h hby ho (decide_eq_true hl)
  ·rw[if_neg hl];exact A3O v B n l z w h hby ho (decide_eq_false hl)
 rw[if_neg ho];by_cases c1:l.getD n 0=137∨l.getD n 0=136∨l.getD n 0=139
 ·rw[if_pos c1];rcases c1 with c|c|c
  ·exact A8v v B n l z w h hby c
  ·exact A8w v B n l z w h hby c
  ·exact A8u v B n l z w h hby c
 rw[if_neg c1];by_cases c2:184≤l.getD n 0∧l.getD n 0≤191
 ·rw[if_pos c2];rcases hz with rfl|rfl
  ·exact A2G v B n l w h hby ho c2.1 c2.2
  ·exact A2F v B n l w h hby ho c2.1 c2.2
 rw[if_neg c2];by_cases c3:l.getD n 0=129∨l.getD n 0=131∨l.getD n 0=211∨l.getD n 0=247
 ·rw[if_pos c3];exact A8x _ c3 v B n l z w h hby hz rfl
 rw[if_neg c3];by_cases c4:112≤l.getD n 0∧l.getD n 0≤127
 ·rw[if_pos c4];exact A6p v B n l z w h hby ho c4.1 c4.2
 rw[if_neg c4];by_cases c5:l.getD n 0=235
 ·rw[if_pos c5];exact A8s v B n l z w h hby c5
 rw[if_neg c5];by_cases c6:l.getD n 0=233
 ·rw[if_pos c6];exact A8t v B n l z w h hby c6
 rw[if_neg c6];by_cases c7:l.getD n 0=15
 ·rw[if_pos c7];exact B2P v B n l z w h hby c7
 rw[if_neg c7];have N:∀k:Int,l.getD n 0≠k→(l.getD n 0==k)=false:=fun k hk=>V7 hk
 by_cases d1:l.getD n 0≤111
 ·exact A6o v B n l z w h hby ho hc0 d1 (N _ (by omega)) (N _ (by omega)) (N _ (by omega)) (N _ (by omega)) (N _ (by omega)) (N _ (by omega)) (N _ (by omega)) (N _ (by omega)) (N _ (by omega)) (N _ (by omega))
 by_cases d2:l.getD n 0≤183
 ·exact A6n v B n l z w h hby ho (by omega) d2 (N _ (by omega)) (N _ (by omega)) (N _ (by omega)) (N _ (by omega)) (N _ (by omega)) (N _ (by omega)) (N _ (by omega)) (N _ (by omega)) (N _ (by omega)) (N _ (by omega))
 ·exact A6m v B n l z w h hby ho (by omega) (by omega) (N _ (by omega)) (N _ (by omega)) (N _ (by omega)) (N _ (by omega)) (N _ (by omega)) (N _ (by omega)) (N _ (by omega)) (N _ (by omega)) (N _ (by omega)) (N _ (by omega))
theorem A7F{xs ys:List Int}(hl:xs.length=ys.length)(h:∀i,i<xs.length→xs.getD i 0=ys.getD i 0):xs=ys:=by
 apply List.ext_getElem hl;intro i h1 h2;have:=h i h1;rw[List.getD_eq_getElem?_getD,List.getD_eq_getElem?_getD,List.getElem?_eq_getElem h1,List.getElem?_eq_getElem h2]at this;exact this
set_option maxHeartbeats 4000000 in
theorem A5F(xs ys:List Int)(v u:Value)(w:World)(hv:Ints .u8 w v xs)(hu:Ints .u8 w u ys):Calls prog 96 #[v,u] w fun e w'=>e= .returned (.bool (decide (xs=ys)))∧Dr w w':=by
 have HX:=hid hv;have HY:=hid hu;obtain⟨a,c,rfl,h1,h2⟩:=hv.shape;obtain⟨a2,c2,rfl,k1,k2⟩:=hu.shape;clear hv hu;cases hne:((xs.length:Int) !=ys.length)
 ·have hl:xs.length=ys.length:=by
   have h:(xs.length:Int)=ys.length:=by simpa using hne
   omega
  have HL:=hid hl;clear hl;go_enter func96,ntmps96;go_wp2_with fail
  go_loopw[13] (fun i wr=>∃j:Nat,j≤xs.length∧i= .int .i64 j∧Hid (∀i,i<j→xs.getD i 0=ys.getD i 0)∧Dr w wr) (fun i _=>xs.length-(intOf i).toNat)
  case atStart=>exact⟨0,Nat.zero_le _,rfl,(fun i hi=>absurd hi (by omega)),Dr.refl _⟩
  case round=>
   obtain⟨j,hj,rfl,hno,n,rfl⟩:=hrel;by_cases hlt:j<xs.length
   ·have hlt2:j<ys.length:=by have:=HL.out;omega
    obtain⟨b,q,c',e',_,_,d0⟩:=HX.out.at hlt;cases e';obtain⟨b2,q2,c2',e',_,_,d1⟩:=HY.out.at hlt2;cases e';generalize hx:xs.getD j 0=x at*
    generalize hy:ys.getD j 0=y at*
    have HXJ:=hid hx;have HYJ:=hid hy;clear hx hy;cases hc:(x !=y)
    ·have HC:Hid (x=y):=by
      have:x=y:=by simpa using hc
      exact this
     go_wp2_with fail
     go_quiet(fail)
     go_wp2_with fail
     go_roundw
     case rel=>exact⟨j+1,by omega,by go_num,(fun i hi=>by
      by_cases e:i=j
      ·rw[e,HXJ.out,HYJ.out];exact HC.out
      ·exact hno.out i (by omega)),_,rfl⟩
     case measure=>simp[intOf];omega
    ·have HV:Hid (decide (xs=ys)=false):=by
      have hc':x≠y:=by simpa using hc
      show _=_
      rw[decide_eq_false_iff_not];intro e;exact hc' (by rw[←HXJ.out,←HYJ.out,e])
     go_wp2_with fail
     go_quiet(fail)
     go_wp2_with fail
     go_ret;exact⟨A0X HV.out.symm,_,by first|rfl|exact World.drewN_drewN _ _ _⟩
   ·have HV:Hid (decide (xs=ys)=true):=by
     show _=_
     rw[decide_eq_true_iff];exact A7F HL.out (fun i hi=>hno.out i (by omega))
    go_wp2_with fail
    go_ret;exact⟨A0X HV.out.symm,_,rfl⟩
 ·have HV:Hid (decide (xs=ys)=false):=by
   have hl:xs.length≠ys.length:=by intro e;rw[e]at hne;simp at hne
   show _=_
   rw[decide_eq_false_iff_not];intro e;exact hl (by rw[e])
  go_enter func96,ntmps96;go_wp2_with fail
  go_ret;exact⟨A0X HV.out.symm,0,rfl⟩
section
variable {P : Program} {l : List Oper} {Q : Exit → Act → World → Prop} {md : Region.Mode} {S : World → Prop}
theorem tk(i:Nat){oi:Oper}{v:Value}{fuel:Nat}{listed:Array Bool}{a a':Act}{w:World}
  (h:wpAnyH P md l.toArray Q S fuel (listed.setIfInBounds i true) a' w)
  (hi:(l.drop i).head? =some oi:=by rfl)
  (hs:Region.noSelect l.toArray=true:=by kernel_rfl) (hf:Region.free md l.toArray listed i=true:=by kernel_rfl) (hr:(Region.ready md l.toArray listed).contains i=true:=by kernel_rfl)
  (hw:Region.wanted oi (yielded l.toArray a.tmps)=true:=by rfl)
  (hv:∀w,S w→(execOp a.eval oi).run P w= .ok (.value v) w:=by(intro w hSw;(try dsimp only at hSw);go_simp;(try with_reducible rfl)))
  (hQ:∀c a w,Q (.panic c) (a.put oi.dst v) w→Q (.panic c) a w:=by exact fun _ _ _ h=>h)
  (hS:S w:=by assumption)
  (ha:a.put oi.dst v=a':=by first|(go_frame;done)|(go_frame;rfl)|rfl):wpAnyH P md l.toArray Q S (fuel+1) listed a w:=by
 subst ha;exact O1 i hi hs hf hr hQ (Or.inl ⟨hw,hv⟩) hS h
theorem sk(i:Nat){oi:Oper}{fuel:Nat}{listed:Array Bool}{a a':Act}{w:World}
  (h:wpAnyH P md l.toArray Q S fuel (listed.setIfInBounds i true) a' w)
  (hi:(l.drop i).head? =some oi:=by rfl)
  (hs:Region.noSelect l.toArray=true:=by kernel_rfl) (hf:Region.free md l.toArray listed i=true:=by kernel_rfl) (hr:(Region.ready md l.toArray listed).contains i=true:=by kernel_rfl)
  (hw:Region.wanted oi (yielded l.toArray a.tmps)=false:=by rfl)
  (hQ:∀c a w,Q (.panic c) (a.put oi.dst undef) w→Q (.panic c) a w:=by exact fun _ _ _ h=>h)
  (hS:S w:=by assumption)
  (ha:a.put oi.dst undef=a':=by first|(go_frame;done)|(go_frame;rfl)|rfl):wpAnyH P md l.toArray Q S (fuel+1) listed a w:=by
 subst ha;exact O1 i hi hs hf hr hQ (Or.inr ⟨hw,rfl⟩) hS h
theorem rd1(i:Nat){oi:Oper}{fuel:Nat}{listed:Array Bool}{a:Act}{w:World}
  (h:∀K':Act→World→Prop,Shut (∀a w,S w→(S w→wpAnyH P md l.toArray Q S fuel (listed.setIfInBounds i true) a w)→K' a w)→if Region.wanted oi (yielded l.toArray a.tmps)=true then Oper.wp P oi a w K' Q else K' (a.put oi.dst undef) w)
  (hi:(l.drop i).head? =some oi:=by rfl) (hr:Region.ready md l.toArray listed=[i]:=by kernel_rfl):wpAnyH P md l.toArray Q S (fuel+1) listed a w:=
 wpAnyH_ready hr (by simp) (I3 i hi h AllReadyH.nil)
end
section
variable {W0 w : World}
theorem kp(h:Since W0 w:=by first|assumption|exact Since.drew (by assumption)|exact Since.next (by assumption) ((Below.refl _ _).alloc (Nat.le_refl _) _)):Since W0 w:=h
end
end Go.Proofs.YtajljbmeaeeknaaGreat
namespace Go.Proofs.YtajljbmeaeeknaaGreat
open Go.RowKit
set_option linter.unusedVariables false
set_option linter.unusedSimpArgs false
theorem Y9{p:Prop}(h:p:=by
 (first|assumption|exact Since.drew (by assumption)|exact Since.next (by assumption) (by assumption))
 ):p:=h
theorem B1T{p:Prop}(h:p:=by
 go_wp2_with fail
 refine bodyPost_ret (v:=.tuple #[L9 ⟨0,0,0,0,0⟩,.int .i64 0,.bool false]) (by simp[results,results66,go_sem,L9,q0b,q1b,q2b,q3b,q4b]) rfl ⟨?_,?_⟩
 ·rw[HN0.out.1,HN0.out.2.1,HN0.out.2.2];rfl
 ·(try with_reducible refine Below.drew ?_);exact A0K HBx.out (Nat.le_refl _) _ _ _ _ _
 ):p:=h
theorem But.out{B:Nat}{w W W':World}(h:But B W W')(hw:Below w.heap.size w W)(hB:w.heap.size≤B):Below w.heap.size w W':=
 ⟨h.os.trans hw.os,h.tape.trans hw.tape,h.output.trans hw.output,Nat.le_trans hw.size h.size,fun k hk=>(h.block k (Nat.lt_of_lt_of_le hk hw.size) (by omega)).trans (hw.block k hk)⟩
structure DSt(w:World)(v:Value)(l:List Int)(n:Nat)(W:World):Prop where
 r:RdL W (w.heap.size+1) v l n
 x:Box5 W w.heap.size 0 0 0 0 0
 b:Below w.heap.size w W
theorem DSt.call{w W W':World}{v:Value}{l:List Int}{n n':Nat}(h:DSt w v l n W)(hr:RdL W' (w.heap.size+1) v l n')(hb:But (w.heap.size+1) W W'):DSt w v l n' W':=
 ⟨hr,h.x.but hb (by omega),hb.out h.b (by omega)⟩
theorem DSt.below{w W W':World}{v:Value}{l:List Int}{n:Nat}(h:DSt w v l n W)(hb:Below W.heap.size W W'):DSt w v l n W':=
 ⟨h.r.stays hb,(hb.block _ h.x.lt).trans h.x,A7 h.b hb⟩
theorem DSt.drew{w W:World}{v:Value}{l:List Int}{n:Nat}(h:DSt w v l n W):DSt w v l n W.drew:=h.below (E1 (Below.refl _ _) 1)
theorem DSt.start{w:World}{v:Value}{l:List Int}(hv:Ints .u8 w v l):DSt w v l 0 ((w.alloc (.cells #[.int .i64 0,.int .i64 0,.int .i64 0,.int .i64 0,.int .i64 0] 89)).alloc (.cells #[v,.int .i64 0,.bool false] 183)):=by
 have hb:=((Below.refl w.heap.size w).alloc (Nat.le_refl _) (.cells #[.int .i64 0,.int .i64 0,.int .i64 0,.int .i64 0,.int .i64 0] 89)).alloc (by simp) (.cells #[v,.int .i64 0,.bool false] 183);refine⟨⟨?_,hv.stays hb,fun b q n c e hn=>?_⟩,?_,hb⟩
 ·unfold Rdr;rw[show((w.alloc (.cells #[.int .i64 0,.int .i64 0,.int .i64 0,.int .i64 0,.int .i64 0] 89)).alloc (.cells #[v,.int .i64 0,.bool false] 183)).heap=(w.heap.push (.cells #[.int .i64 0,.int .i64 0,.int .i64 0,.int .i64 0,.int .i64 0] 89)).push (.cells #[v,.int .i64 0,.bool false] 183)from rfl];rw[Array.getElem?_push];simp
 ·obtain⟨a,c',e',_⟩:=hv.shape;have hl:0<l.length:=by rw[e']at e;injection e;omega
  obtain⟨b',q',c2,e2,_,hlt,_⟩:=hv.at hl;rw[e2]at e;injection e with e3
  injection e3 with e4
  injection e4 with e5
  omega
 ·exact(Box5.new w 0 0 0 0 0).but ((But.refl (w.heap.size+1) _).alloc _) (by omega)
theorem DSt.one{w W:World}{v:Value}{l:List Int}(h:DSt w v l 0 W)(hl:0<l.length):DSt w v l 1 (W.setCell ⟨w.heap.size+1,1,none⟩ (.int .i64 1)):=by
 have hb:But (w.heap.size+1) W (W.setCell ⟨w.heap.size+1,1,none⟩ (.int .i64 1)):=(But.refl _ _).setCell 1 _;exact h.call ⟨h.r.r.more hl,h.r.l.but hb h.r.off,h.r.off⟩ hb
def V5(l:List Int):Ins:=match S8 l with|some (x,_)=>x|none=>⟨0,0,0,0,0⟩
def r8(l:List Int):Nat:=match S8 l with|some (_,n)=>n|none=>0
def m5(l:List Int):Bool:=(S8 l).isSome
theorem T5{l:List Int}(h:S8 l=none):V5 l=⟨0,0,0,0,0⟩∧r8 l=0∧m5 l=false:=by simp[V5,r8,m5,h]
theorem m4{l:List Int}{x:Ins}{n:Nat}(h:S8 l=some (x,n)):V5 l=x∧r8 l=n∧m5 l=true:=by simp[V5,r8,m5,h]
theorem Ints.take{k:IntKind}{w:World}{a:Option Addr}{c m:Nat}{xs:List Int}(h:Ints k w (.slice a xs.length c) xs)(hm:m≤xs.length):Ints k w (.slice a m c) (xs.take m):=by
 obtain⟨a',c',e,h1,h2,h3,h4⟩:=h;cases e;have hl:(xs.take m).length=m:=by rw[List.length_take];omega
 refine⟨a,c,by rw[hl],by omega,by omega,h3,fun i hi=>?_⟩;rw[hl]at hi;obtain⟨b,o,e',h5,h6⟩:=h4 i (by omega);refine⟨b,o,e',h5,?_⟩;show w.cell? _=_
 rw[h6];simp[List.getD_eq_getElem?_getD,List.getElem?_take,hi]
theorem A0K{w W:World}{b:Nat}(h:Below w.heap.size w W)(hb:w.heap.size≤b)(u0 u1 u2 u3 u4:Value):Below w.heap.size w (((((W.setCell ⟨b,0,none⟩ u0).setCell ⟨b,1,none⟩ u1).setCell ⟨b,2,none⟩ u2).setCell ⟨b,3,none⟩ u3).setCell ⟨b,4,none⟩ u4):=
 ((((h.setCell (p:=⟨b,0,none⟩) hb u0).setCell (p:=⟨b,1,none⟩) hb u1).setCell (p:=⟨b,2,none⟩) hb u2).setCell (p:=⟨b,3,none⟩) hb u3).setCell (p:=⟨b,4,none⟩) hb u4
theorem A5z(l:List Int):Y7 l=16∨Y7 l=32:=by unfold Y7;split<;>simp
theorem A0G(l:List Int)(v:Value)(w:World)(hv:Ints .u8 w v l)(hby:Byt l):Calls prog 66 #[v] w fun e w'=>e= .returned (.tuple #[L9 (V5 l),.int .i64 (r8 l),.bool (m5 l)])∧Below w.heap.size w w':=by
 have HV:=hid hv;have HS:=hid (DSt.start hv);have HBY:=hid hby;obtain⟨va,vc,rfl,hl1,hl2⟩:=hv.shape;obtain⟨p,hp⟩:∃p,(l.getD 0 0==102)=p:=⟨_,rfl⟩
 have hpre:Z0 l=(if p then 1 else 0):=by rw[←hp];unfold Z0;by_cases h:l.getD 0 0=102<;>simp[h]
 have hsiz:Y7 l=(if p then 16 else 32):=by rw[←hp];unfold Y7;by_cases h:l.getD 0 0=102<;>simp[h]
 have hp0:p=true→0<l.length:=fun h=>by
  rcases l with _|⟨a,r⟩
  ·rw[h]at hp;simp at hp
  ·simp
 have HP0:=hid hp0;have HPRE:=hid hpre;have HSIZ:=hid hsiz;have HZ:=hid (A5z l);obtain⟨x,hx⟩:∃x,(gsP (l.drop (Z0 l)) (Y7 l)).1=x:=⟨_,rfl⟩
 obtain⟨k,hk⟩:∃k,(gsP (l.drop (Z0 l)) (Y7 l)).2=k:=⟨_,rfl⟩
 have HX:=hid hx;have HK:=hid hk;obtain⟨z,hz⟩:∃z,Y7 l=z:=⟨_,rfl⟩
 obtain⟨n,hn⟩:∃n,Z0 l=n:=⟨_,rfl⟩
 have HG:Hid (∀W,DSt w (.slice va l.length vc) l n W→Calls prog 95 #[.pointer (some ⟨w.heap.size+1,0,none⟩),.int .i64 z] W fun e w'=>e= .returned (L9 x)∧DSt w (.slice va l.length vc) l (n+k) w'):=fun W h=>by
  have:=A4q _ _ n l z W h.r HBY.out (hz▸HZ.out);rw[←hn,←hz,HX.out,HK.out,hn,hz]at this;exact this.mono fun e w' hh=>⟨hh.1,h.call hh.2.1 hh.2.2⟩
 have HZN:=hid hz;have HNN:=hid hn;clear hx hk hv hby hpre hsiz hp0 hz hn;go_enter func66,ntmps66;go_upto_region 3 with fail
 obtain⟨W3,hW3⟩:∃W,(w.alloc (.cells #[.int .i64 0,.int .i64 0,.int .i64 0,.int .i64 0,.int .i64 0] 89)).alloc (.cells #[.slice va l.length vc,.int .i64 0,.bool false] 183)=W:=⟨_,rfl⟩
 rw[hW3]at HS⊢;clear hW3
 go_cut[19]from 11 to 18 (fun b wx=>b= .bool p∧W3=wx)
 case first=>
  cases p
  ·by_cases h0:0<l.length
   ·have d0:decide (0<l.length)=true:=decide_eq_true h0;obtain⟨b,q,c,e',h5,h6,h7⟩:=HS.out.r.l.at h0;cases e';rw[Nat.add_zero]at h7;generalize l.getD 0 0=y at*
    go_wp2_with fail
    go_meet
    case rel=>exact⟨rfl,rfl⟩
   ·have d0:decide (0<l.length)=false:=decide_eq_false h0;go_wp2_with fail
    go_meet
    case rel=>exact⟨rfl,rfl⟩
  ·have h0:=HP0.out rfl;have d0:decide (0<l.length)=true:=decide_eq_true h0;obtain⟨b,q,c,e',h5,h6,h7⟩:=HS.out.r.l.at h0;cases e';rw[Nat.add_zero]at h7;generalize l.getD 0 0=y at*
   go_wp2_with fail
   go_meet
   case rel=>exact⟨rfl,rfl⟩
 case rest=>
  obtain⟨rfl,rfl⟩:=hcut;clear hp
  go_upto_if 19 with fail
  go_cut[6]from 20 to 22 (fun s wx=>s= .int .i64 z∧DSt w (.slice va l.length vc) l n wx)
  case first=>
   cases p
   ·have HQ:Hid (z=32∧n=0):=⟨by rw[←HZN.out,HSIZ.out];rfl,by rw[←HNN.out,HPRE.out];rfl⟩
    go_wp2_with fail
    go_meet
    case rel=>exact⟨by rw[HQ.out.1],by rw[HQ.out.2];exact HS.out⟩
   ·have HQ:Hid (z=16∧n=1):=⟨by rw[←HZN.out,HSIZ.out];rfl,by rw[←HNN.out,HPRE.out];rfl⟩
    have h0:=HP0.out rfl;have c1:=HS.out.r.r.c1;have f1:=HS.out.r.r.free 1;have HD:=hid (HS.out.one h0);go_wp2_with fail
    go_meet
    case rel=>exact⟨by rw[HQ.out.1],by rw[HQ.out.2];exact HD.out⟩
  case rest=>
   obtain⟨rfl,hd⟩:=hcut;obtain⟨o,d,s,z2,i⟩:=x;have HG2:Hid (∀W,DSt w (.slice va l.length vc) l n W→Calls prog 95 #[.pointer (some ⟨w.heap.size+1,0,none⟩),.int .i64 z] W fun e w'=>e= .returned (.agg #[.int .i64 o,.int .i64 d,.int .i64 s,.int .i64 z2,.int .i64 i])∧DSt w (.slice va l.length vc) l (n+k) w'):=HG;go_upto_region 7 with((with_reducible refine(HG2.out _ hd).mono ?_);rintro e w5 ⟨rfl,hd5⟩)
   obtain⟨W4,hW4⟩:∃W,w5.alloc (.cells #[.int .i64 o,.int .i64 d,.int .i64 s,.int .i64 z2,.int .i64 i] 89)=W:=⟨_,rfl⟩
   have hb4:Below w5.heap.size w5 W4:=by rw[←hW4];exact(Below.refl _ _).alloc (Nat.le_refl _) _
   have hd4:=hd5.below hb4;have hx4:Box5 W4 w5.heap.size o d s z2 i:=by rw[←hW4];exact Box5.new w5 o d s z2 i
   have hlt5:w5.heap.size<W4.heap.size:=hx4.lt;have hltR:w.heap.size+1<W4.heap.size:=hd4.r.r.lt;have hge5:w.heap.size≤w5.heap.size:=hd5.b.size;rw[hW4];clear hW4 hb4 hd hd5;obtain⟨N,hN⟩:∃N,n+k=N:=⟨_,rfl⟩
   rw[hN]at hd4;have HD4:=hid hd4;have HX4:=hid hx4;have h00:=Since.refl W4;have hcx:=hx4.cells.1;have hcq:=hd4.x.cells;have hr1:=hd4.r.r.c1;have hr2:=hd4.r.r.c2;have HDN:Hid (S8 l=if(N≤l.length∧okI ⟨o,d,s,z2,i⟩=true)∧K4 ⟨o,d,s,z2,i⟩=l.take N then some (⟨o,d,s,z2,i⟩,N)else none):=by
    show _=_
    unfold S8;rw[HX.out,HK.out,HNN.out,hN]
   clear HX HK HZN HNN HG HG2 HV HS HP0 HPRE HSIZ HZ hN hx4 hd4;obtain⟨x0,x1,x2,x3,x4⟩:=hcx;obtain⟨⟨q0,q1,q2,q3,q4⟩,qf⟩:=hcq;have f0:=qf 0;have f1:=qf 1;have f2:=qf 2;have f3:=qf 3;have f4:=qf 4;clear qf;by_cases hsh:l.length<N
   ·rw[decide_eq_true hsh]at hr2;have HN0:=hid (T5 (l:=l) (by rw[HDN.out,if_neg (fun h=>absurd h.1.1 (by omega))]));have hr2s:∀wk,Since W4 wk→wk.cell? ⟨w.heap.size+1,2,none⟩=some (.bool true):=fun wk h=>h.cell hr2
    refine wp_region_held_drew (S:=(fun wk=>Since W4 wk)) (by kernel_rfl) ?_ (fun hHeld=>?_)
    ·exact Y9
    refine tk 0 ?_;refine tk 1 ?_;refine tk 2 ?_;refine tk 3 ?_;refine tk 4 ?_;refine sk 5 ?_;refine sk 6 ?_;refine sk 7 ?_;refine tk 8 ?_;refine tk 9 ?_;refine sk 10 ?_;refine sk 11 ?_;refine sk 12 ?_;refine sk 13 ?_;refine sk 14 ?_;refine sk 15 ?_;refine sk 16 ?_;refine sk 17 ?_;refine sk 18 ?_;refine sk 19 ?_;refine tk 20 ?_;refine wpAnyH_done (by kernel_rfl) ?_ _;have q0b:=Since.cell h00 q0;have q1b:=Since.cell h00 q1;have q2b:=Since.cell h00 q2;have q3b:=Since.cell h00 q3;have q4b:=Since.cell h00 q4;have f0b:=Since.free h00 (Nat.lt_of_succ_lt hltR) f0;have f1b:=Since.free h00 (Nat.lt_of_succ_lt hltR) f1;have f2b:=Since.free h00 (Nat.lt_of_succ_lt hltR) f2;have f3b:=Since.free h00 (Nat.lt_of_succ_lt hltR) f3;have f4b:=Since.free h00 (Nat.lt_of_succ_lt hltR) f4;have HBx:=hid (A7 HD4.out.b h00);exact B1T
   ·have hle:N≤l.length:=by omega
    rw[decide_eq_false hsh]at hr2;rw[Nat.min_eq_left hle]at hr1;have hNc:N≤vc:=by omega
    have hr2s:∀wk,Since W4 wk→wk.cell? ⟨w.heap.size+1,2,none⟩=some (.bool false):=fun wk h=>h.cell hr2
    have hr1s:∀wk,Since W4 wk→wk.cell? ⟨w.heap.size+1,1,none⟩=some (.int .i64 N):=fun wk h=>h.cell hr1
    have x0s:∀wk,Since W4 wk→wk.cell? ⟨w5.heap.size,0,none⟩=some (.int .i64 o):=fun wk h=>h.cell x0
    have x1s:∀wk,Since W4 wk→wk.cell? ⟨w5.heap.size,1,none⟩=some (.int .i64 d):=fun wk h=>h.cell x1
    have x2s:∀wk,Since W4 wk→wk.cell? ⟨w5.heap.size,2,none⟩=some (.int .i64 s):=fun wk h=>h.cell x2
    have x3s:∀wk,Since W4 wk→wk.cell? ⟨w5.heap.size,3,none⟩=some (.int .i64 z2):=fun wk h=>h.cell x3
    have x4s:∀wk,Since W4 wk→wk.cell? ⟨w5.heap.size,4,none⟩=some (.int .i64 i):=fun wk h=>h.cell x4
    cases hok:okI ⟨o,d,s,z2,i⟩
    ·have HN0:=hid (T5 (l:=l) (by rw[HDN.out,if_neg (fun h=>by rw[hok]at h;exact absurd h.1.2 (by simp))]));have CV:Hid (∀wk,Calls prog 64 #[.agg #[.int .i64 o,.int .i64 d,.int .i64 s,.int .i64 z2,.int .i64 i]] wk fun e w'=>e= .returned (.int .i64 1)∧Below wk.heap.size wk w'):=fun wk=>by
      have:=O2 ⟨o,d,s,z2,i⟩ wk;rw[show vaI ⟨o,d,s,z2,i⟩=1 by unfold vaI;rw[hok];rfl]at this;exact this
     clear hok;refine wp_region_held_drew (S:=(fun wk=>Since W4 wk)) (by kernel_rfl) ?_ (fun hHeld=>?_)
     ·exact Y9
     refine tk 0 ?_;refine tk 1 ?_;refine tk 2 ?_;refine tk 3 ?_;refine tk 4 ?_;refine tk 5 ?_;refine rd1 6 (fun K hK=>?_)
     (go_simp;first|((with_reducible refine(CV.out _).mono ?_);rintro e w6 ⟨rfl,hb6⟩;have hs6:=Since.next (by assumption) hb6)|((with_reducible refine(CB.out _).mono ?_);rintro e w7 ⟨v7,rfl,hr7,hb7⟩;have HR7:=hid hr7;have hs7:=Since.next (by assumption) hb7;clear hr7)|((with_reducible refine(CE.out _ _ kp (HR7.out.ints HLB.out)).mono ?_);rintro e w8 ⟨rfl,hd8⟩;have hs8:=Since.dr (by assumption) hd8))
     refine hK.out _ _ ?_ (fun hHeld=>?_)
     ·exact Y9
     clear hK K
     try go_frame
     refine tk 7 ?_;refine tk 8 ?_;refine tk 9 ?_;refine sk 10 ?_;refine sk 11 ?_;refine sk 12 ?_;refine sk 13 ?_;refine sk 14 ?_;refine sk 15 ?_;refine sk 16 ?_;refine sk 17 ?_;refine sk 18 ?_;refine sk 19 ?_;refine tk 20 ?_;refine wpAnyH_done (by kernel_rfl) ?_ _;have q0b:=Since.cell hs6 q0;have q1b:=Since.cell hs6 q1;have q2b:=Since.cell hs6 q2;have q3b:=Since.cell hs6 q3;have q4b:=Since.cell hs6 q4;have f0b:=Since.free hs6 (Nat.lt_of_succ_lt hltR) f0;have f1b:=Since.free hs6 (Nat.lt_of_succ_lt hltR) f1;have f2b:=Since.free hs6 (Nat.lt_of_succ_lt hltR) f2;have f3b:=Since.free hs6 (Nat.lt_of_succ_lt hltR) f3;have f4b:=Since.free hs6 (Nat.lt_of_succ_lt hltR) f4;have HBx:=hid (A7 HD4.out.b hs6);exact B1T
    ·have CV:Hid (∀wk,Calls prog 64 #[.agg #[.int .i64 o,.int .i64 d,.int .i64 s,.int .i64 z2,.int .i64 i]] wk fun e w'=>e= .returned (.int .i64 0)∧Below wk.heap.size wk w'):=fun wk=>by
      have:=O2 ⟨o,d,s,z2,i⟩ wk;rw[show vaI ⟨o,d,s,z2,i⟩=0 by unfold vaI;rw[hok];rfl]at this;exact this
     have CB:Hid (∀wk,Calls prog 65 #[.agg #[.int .i64 o,.int .i64 d,.int .i64 s,.int .i64 z2,.int .i64 i]] wk fun e w'=>∃v,e= .returned v∧RowI w' wk.heap.size 5 .u8 v (K4 ⟨o,d,s,z2,i⟩)∧Below wk.heap.size wk w'):=fun wk=>r9 ⟨o,d,s,z2,i⟩ wk hok
     have HLB:Hid ((K4 ⟨o,d,s,z2,i⟩).length≤140737488351232):=by show _≤_;have:=(l8 hok).2;omega
     have HTK:Hid (∀wk,Since W4 wk→Ints .u8 wk (.slice va N vc) (l.take N)):=fun wk h=>(HD4.out.r.l.stays h).take hle
     have HDN2:Hid (S8 l=if K4 ⟨o,d,s,z2,i⟩=l.take N then some (⟨o,d,s,z2,i⟩,N)else none):=by
      show _=_
      rw[HDN.out];by_cases hq:K4 ⟨o,d,s,z2,i⟩=l.take N
      ·rw[if_pos ⟨⟨hle,hok⟩,hq⟩,if_pos hq]
      ·rw[if_neg (fun h=>hq h.2),if_neg hq]
     clear hok HDN;generalize K4 ⟨o,d,s,z2,i⟩=en at*
     have CE:Hid (∀wk v,Since W4 wk→Ints .u8 wk v en→Calls prog 96 #[v,.slice va N vc] wk fun e w'=>e= .returned (.bool (decide (en=l.take N)))∧Dr wk w'):=fun wk v h hi=>A5F en (l.take N) v _ wk hi (HTK.out wk h)
     obtain⟨q,hq⟩:∃q,decide (en=l.take N)=q:=⟨_,rfl⟩
     rw[hq]at CE;have HQ:=hid hq;clear hq;refine wp_region_held_drew (S:=(fun wk=>Since W4 wk)) (by kernel_rfl) ?_ (fun hHeld=>?_)
     ·exact Y9
     refine tk 0 ?_;refine tk 1 ?_;refine tk 2 ?_;refine tk 3 ?_;refine tk 4 ?_;refine tk 5 ?_;refine rd1 6 (fun K hK=>?_)
     (go_simp;first|((with_reducible refine(CV.out _).mono ?_);rintro e w6 ⟨rfl,hb6⟩;have hs6:=Since.next (by assumption) hb6)|((with_reducible refine(CB.out _).mono ?_);rintro e w7 ⟨v7,rfl,hr7,hb7⟩;have HR7:=hid hr7;have hs7:=Since.next (by assumption) hb7;clear hr7)|((with_reducible refine(CE.out _ _ kp (HR7.out.ints HLB.out)).mono ?_);rintro e w8 ⟨rfl,hd8⟩;have hs8:=Since.dr (by assumption) hd8))
     refine hK.out _ _ ?_ (fun hHeld=>?_)
     ·exact Y9
     clear hK K
     try go_frame
     refine tk 7 ?_;refine tk 8 ?_;refine tk 9 ?_;refine tk 10 ?_;refine tk 12 ?_;refine tk 13 ?_;refine tk 14 ?_;refine tk 15 ?_;refine tk 16 ?_;refine tk 17 ?_;refine rd1 11 (fun K hK=>?_)
     (go_simp;first|((with_reducible refine(CV.out _).mono ?_);rintro e w6 ⟨rfl,hb6⟩;have hs6:=Since.next (by assumption) hb6)|((with_reducible refine(CB.out _).mono ?_);rintro e w7 ⟨v7,rfl,hr7,hb7⟩;have HR7:=hid hr7;have hs7:=Since.next (by assumption) hb7;clear hr7)|((with_reducible refine(CE.out _ _ kp (HR7.out.ints HLB.out)).mono ?_);rintro e w8 ⟨rfl,hd8⟩;have hs8:=Since.dr (by assumption) hd8))
     refine hK.out _ _ ?_ (fun hHeld=>?_)
     ·exact Y9
     clear hK K
     try go_frame
     refine rd1 18 (fun K hK=>?_)
     (go_simp;first|((with_reducible refine(CV.out _).mono ?_);rintro e w6 ⟨rfl,hb6⟩;have hs6:=Since.next (by assumption) hb6)|((with_reducible refine(CB.out _).mono ?_);rintro e w7 ⟨v7,rfl,hr7,hb7⟩;have HR7:=hid hr7;have hs7:=Since.next (by assumption) hb7;clear hr7)|((with_reducible refine(CE.out _ _ kp (HR7.out.ints HLB.out)).mono ?_);rintro e w8 ⟨rfl,hd8⟩;have hs8:=Since.dr (by assumption) hd8))
     refine hK.out _ _ ?_ (fun hHeld=>?_)
     ·exact Y9
     clear hK K
     try go_frame
     refine tk 19 ?_;refine tk 20 ?_;refine wpAnyH_done (by kernel_rfl) ?_ _;cases q
     ·have HN0:=hid (T5 (l:=l) (by rw[HDN2.out,if_neg (of_decide_eq_false HQ.out)]));have q0b:=Since.cell hs8 q0;have q1b:=Since.cell hs8 q1;have q2b:=Since.cell hs8 q2;have q3b:=Since.cell hs8 q3;have q4b:=Since.cell hs8 q4;have f0b:=Since.free hs8 (Nat.lt_of_succ_lt hltR) f0;have f1b:=Since.free hs8 (Nat.lt_of_succ_lt hltR) f1;have f2b:=Since.free hs8 (Nat.lt_of_succ_lt hltR) f2;have f3b:=Since.free hs8 (Nat.lt_of_succ_lt hltR) f3;have f4b:=Since.free hs8 (Nat.lt_of_succ_lt hltR) f4;have HBx:=hid (A7 HD4.out.b hs8);exact B1T
     ·have HN1:=hid (m4 (l:=l) (x:=⟨o,d,s,z2,i⟩) (n:=N) (by rw[HDN2.out,if_pos (of_decide_eq_true HQ.out)]));have q0b:=Since.cell hs8 q0;have q1b:=Since.cell hs8 q1;have q2b:=Since.cell hs8 q2;have q3b:=Since.cell hs8 q3;have q4b:=Since.cell hs8 q4;have f0b:=Since.free hs8 (Nat.lt_of_succ_lt hltR) f0;have f1b:=Since.free hs8 (Nat.lt_of_succ_lt hltR) f1;have f2b:=Since.free hs8 (Nat.lt_of_succ_lt hltR) f2;have f3b:=Since.free hs8 (Nat.lt_of_succ_lt hltR) f3;have f4b:=Since.free hs8 (Nat.lt_of_succ_lt hltR) f4;have HBx:=hid (A7 HD4.out.b hs8);have x0b:=x0s _ hs8;have x1b:=x1s _ hs8;have x2b:=x2s _ hs8;have x3b:=x3s _ hs8;have x4b:=x4s _ hs8;have rb:=hr1s _ hs8;go_wp2_with go_region
      refine bodyPost_ret (v:=.tuple #[L9 ⟨o,d,s,z2,i⟩,.int .i64 N,.bool true]) (by simp[results,results66,go_sem,L9,q0b,q1b,q2b,q3b,q4b]) rfl ⟨?_,?_⟩
      ·rw[HN1.out.1,HN1.out.2.1,HN1.out.2.2]
      ·(try with_reducible refine Below.drew ?_);exact A0K HBx.out (Nat.le_refl _) _ _ _ _ _
theorem Ints.str{w:World}{v:Value}{xs:List Int}(h:Ints .u8 w v xs):(convert 28 9 v).run prog w= .ok (.string (strOfNums xs)) w:=by
 obtain⟨a,c,rfl,h1,h2,h3,h4⟩:=h;rcases a with _|⟨b,o,tg⟩
 ·have hl:xs=[]:=by
   rcases xs with _|⟨x,r⟩
   ·rfl
   ·obtain⟨b,o,e,_⟩:=h4 0 (by simp);cases e
  subst hl;exact run_convert_bytes_nil w _ 5 underlying28 underlying5 _ _ _ underlying9
 ·rcases Nat.eq_zero_or_pos xs.length with h0|h0
  ·have hl:xs=[]:=List.length_eq_zero_iff.1 h0;subst hl;rw[run_convert_bytes_string w _ _ 5 _ _ _ underlying28 underlying5 underlying9];have:=run_bytesToString (P:=prog) w ⟨b,o,tg⟩ 0 c [] (by have:=run_loadCells_list (P:=prog) w ⟨b,o,tg⟩ [] (by intro j v hj;simp at hj);simpa using this);exact this
  ·obtain⟨b',o',e,_⟩:=h4 0 h0;cases e;refine run_convert_bytes_arg w _ 5 underlying28 underlying5 b o xs.length c xs rfl (fun i hi=>?_) _ underlying9;obtain⟨b2,o2,e2,_,h6⟩:=h4 i hi;cases e2;rw[Nat.mul_one]at h6;exact h6
theorem A1U{w:World}{ops:Array Oper}{rest:List Oper}{o:Oper}{a:Act}{Q:Exit→Act→World→Prop}(hgd:o.guard=none)(s x:Operand)
  (ho:o.op= .call {callee:=.builtin .append,args:=#[s,x],argTypes:=#[28,28]}) (base:Nat) (v:Value) (xs:List Int) (hs:a.eval s=v) (hown:RowI w base 5 .u8 v xs)
  (u:Value) (ys:List Int) (hx:a.eval x=u) (hu:Ints .u8 w u ys) (hl:xs.length+ys.length≤100000) (hbase:base≤w.heap.size)
  (h:∀v' w',RowI w' base 5 .u8 v' (xs++ys)→Below base w w'→wpList prog ops Q rest (a.put o.dst v') w'):wpList prog ops Q (o::rest) a w:=by
 rcases Nat.eq_zero_or_pos ys.length with h0|h0
 ·obtain⟨i0,hi0,hz0,hz1,hz2⟩:=info_parts J2;obtain rfl:ys=[]:=List.length_eq_zero_iff.1 h0;obtain⟨ad,c,e,h1,h2,h3,_⟩:=hu;rcases ad with _|ad
  ·have hc:c=0:=h3 rfl;refine wpList_append_own_none hgd s x _ ho base 5 i0 1 underlying28 hi0 v xs.length _ hs hown (hx.trans (by rw[e,hc];rfl)) ?_;exact h v w (by rw[List.append_nil];exact hown) (Below.refl _ _)
  ·refine wpList_append_own (P:=prog) w hgd s x _ ho base 5 i0 (.int .u8 0) 1 1 underlying28 hi0 hz0 hz1 hz2 rfl (by decide) v xs.length _ hs hown ad 0 c [] (hx.trans e) rfl (fun j u hj=>by simp at hj) (fun u hu=>by cases hu) ?_ ?_ hbase ?_
   ·unfold maxLen;simp at hl;omega
   ·simp at hl;omega
   ·intro v' w' hown' hg _;rw[List.append_nil,Nat.add_zero]at hown';exact h v' w' (by rw[List.append_nil];exact hown') ((Below.refl _ _).grown hg hbase (V1 hown))
 ·exact R9 hgd s x ho base v xs hs hown u ys hx hu h0 hl hbase h
end Go.Proofs.YtajljbmeaeeknaaGreat
namespace Go.Proofs.YtajljbmeaeeknaaGreat
open Go.RowKit Go.Maps
set_option linter.unusedVariables false
set_option linter.unusedSimpArgs false
theorem A3e(xs:List Int)(v:Value)(w:World)(hv:Ints .u8 w v xs)(h1:xs.length≤50000):Calls prog 109 #[v] w fun e w'=>∃v,e= .returned v∧MemO w.heap.size w' v xs∧Below w.heap.size w w':=by
 have HV:=hid hv;obtain⟨a,c,rfl,hc,hl,hnil,-⟩:=hv;cases a with
 |none=>
  have h0:=hnil rfl;obtain rfl:xs=[]:=List.length_eq_zero_iff.1 (by omega);subst h0;have hnl:∀w,(binOp .eql 28 (.slice none 0 0) (.slice none 0 0)).run prog w= .ok (.bool true) w:=fun w=>Lib.run_eql_slice_nil w 28 5 none 0 0 0 0 underlying28
  go_enter func109,ntmps109;go_wp2_with fail
  go_ret;exact⟨_,rfl,.inl ⟨rfl,rfl⟩,Below.refl _ _⟩
 |some ad=>
  have HR0:=hid (RowI.lit w #[] [] .u8 5 w.heap.size 0 (Nat.le_refl _) rfl rfl (by unfold maxLen;simp));have HB:=hid ((Below.refl w.heap.size w).alloc (Nat.le_refl _) (.cells #[] 5));have hnl:∀w,(binOp .eql 28 (.slice (some ad) xs.length c) (.slice none 0 0)).run prog w= .ok (.bool false) w:=fun w=>Lib.run_eql_slice_nil w 28 5 (some ad) xs.length c 0 0 underlying28
  clear hnil;go_enter func109,ntmps109;go_wp2_with(at_builtin;go_must (refine A1U rfl _ _ rfl w.heap.size _ [] rfl HR0.out _ xs rfl (HV.out.stays HB.out) ?c1 ?c2 ?_))
  case c1=>simp;omega
  case c2=>simp
  intro v' w' hr hb;have HR:Hid (RowI w' w.heap.size 5 .u8 v' xs):=hid hr;have HB2:=hid (HB.out.trans hb);clear hr hb;go_wp2_with fail
  go_ret;exact⟨_,rfl,HR.out.memO,HB2.out⟩
def BgP(c:Mac)(k:Int)(w:World)(e:Ending)(w':World):Prop:=
 Below w.heap.size w w'∧((P7 c k≠0∧e= .returned (.tuple #[.pointer none,.int .i64 (P7 c k)]))∨(P7 c k=0∧∃M r mv',e= .returned (.tuple #[.pointer (some ⟨M,0,none⟩),.int .i64 0])∧VM w.heap.size M r mv' c w'))
theorem A3Z(c:Mac)(k:Int):
  (decide (32768<(c.m.length:Int))=true∧P7 c k=1)∨
  (decide (32768<(c.m.length:Int))=false∧(c.r.getD 0 0 !=0)=true∧P7 c k=1)∨
  (decide (32768<(c.m.length:Int))=false∧(c.r.getD 0 0 !=0)=false∧decide (k<0)=true∧P7 c k=1)∨
  (decide (32768<(c.m.length:Int))=false∧(c.r.getD 0 0 !=0)=false∧decide (k<0)=false∧decide (200000<k)=true∧P7 c k=1)∨
  (decide (32768<(c.m.length:Int))=false∧(c.r.getD 0 0 !=0)=false∧decide (k<0)=false∧decide (200000<k)=false∧(c.e !=0)=true∧P7 c k=9)∨
  (decide (32768<(c.m.length:Int))=false∧(c.r.getD 0 0 !=0)=false∧decide (k<0)=false∧decide (200000<k)=false∧(c.e !=0)=false∧P7 c k=0):=by
 unfold P7;by_cases h1:32768<c.m.length
 ·exact .inl ⟨by simp;omega,by rw[if_pos (.inl h1)]⟩
 have d1:decide (32768<(c.m.length:Int))=false:=by simp;omega
 by_cases h2:c.r.getD 0 0=0
 ·have d2:(c.r.getD 0 0 !=0)=false:=by rw[h2];rfl
  by_cases h3:k<0
  ·exact .inr (.inr (.inl ⟨d1,d2,by simp[h3],by rw[if_pos (.inr (.inr (.inl h3)))]⟩))
  by_cases h4:200000<k
  ·exact .inr (.inr (.inr (.inl ⟨d1,d2,by simp;omega,by simp[h4],by rw[if_pos (.inr (.inr (.inr h4)))]⟩)))
  have hn:¬(32768<c.m.length∨c.r.getD 0 0≠0∨k<0∨200000<k):=by
   intro h;rcases h with h|h|h|h
   ·exact h1 h
   ·exact h h2
   ·exact h3 h
   ·exact h4 h
  rw[if_neg hn];by_cases h5:c.e=0
  ·exact .inr (.inr (.inr (.inr (.inr ⟨d1,d2,by simp;omega,by simp;omega,by rw[h5];rfl,by rw[if_neg (by simp[h5])]⟩))))
  ·exact .inr (.inr (.inr (.inr (.inl ⟨d1,d2,by simp;omega,by simp;omega,by simp[h5],by rw[if_pos h5]⟩))))
 ·exact .inr (.inl ⟨d1,bne_iff_ne.2 h2,by rw[if_pos (.inr (.inl h2))]⟩)
theorem G6{l:List Value}{n:Nat}(h:l.length=n+1):∃a t,l=a::t∧t.length=n:=by
 cases l with
 |nil=>cases h
 |cons a t=>exact⟨a,t,rfl,by simpa using h⟩
theorem A4Q(ds:List Value)(h:ds.length=36)(r:Nat)(w:World):(Instr.build 160 #[(0,.agg ds.toArray),(1,.map (some r))]).run prog w= .ok (.agg (ds++[Value.map (some r)]).toArray) w:=by
 obtain⟨a0,d0,rfl,h0⟩:=G6 h;obtain⟨a1,d1,rfl,h1⟩:=G6 h0;obtain⟨a2,d2,rfl,h2⟩:=G6 h1;obtain⟨a3,d3,rfl,h3⟩:=G6 h2;obtain⟨a4,d4,rfl,h4⟩:=G6 h3;obtain⟨a5,d5,rfl,h5⟩:=G6 h4;obtain⟨a6,d6,rfl,h6⟩:=G6 h5;obtain⟨a7,d7,rfl,h7⟩:=G6 h6;obtain⟨a8,d8,rfl,h8⟩:=G6 h7;obtain⟨a9,d9,rfl,h9⟩:=G6 h8;obtain⟨a10,d10,rfl,h10⟩:=G6 h9;obtain⟨a11,d11,rfl,h11⟩:=G6 h10;obtain⟨a12,d12,rfl,h12⟩:=G6 h11;obtain⟨a13,d13,rfl,h13⟩:=G6 h12;obtain⟨a14,d14,rfl,h14⟩:=G6 h13;obtain⟨a15,d15,rfl,h15⟩:=G6 h14;obtain⟨a16,d16,rfl,h16⟩:=G6 h15;obtain⟨a17,d17,rfl,h17⟩:=G6 h16;obtain⟨a18,d18,rfl,h18⟩:=G6 h17;obtain⟨a19,d19,rfl,h19⟩:=G6 h18;obtain⟨a20,d20,rfl,h20⟩:=G6 h19;obtain⟨a21,d21,rfl,h21⟩:=G6 h20;obtain⟨a22,d22,rfl,h22⟩:=G6 h21;obtain⟨a23,d23,rfl,h23⟩:=G6 h22;obtain⟨a24,d24,rfl,h24⟩:=G6 h23;obtain⟨a25,d25,rfl,h25⟩:=G6 h24;obtain⟨a26,d26,rfl,h26⟩:=G6 h25;obtain⟨a27,d27,rfl,h27⟩:=G6 h26;obtain⟨a28,d28,rfl,h28⟩:=G6 h27;obtain⟨a29,d29,rfl,h29⟩:=G6 h28;obtain⟨a30,d30,rfl,h30⟩:=G6 h29;obtain⟨a31,d31,rfl,h31⟩:=G6 h30;obtain⟨a32,d32,rfl,h32⟩:=G6 h31;obtain⟨a33,d33,rfl,h33⟩:=G6 h32;obtain⟨a34,d34,rfl,h34⟩:=G6 h33;obtain⟨a35,d35,rfl,h35⟩:=G6 h34;obtain rfl:d35=[]:=List.eq_nil_of_length_eq_zero h35
 kernel_rfl
set_option maxHeartbeats 2000000 in
theorem A5Z(c:Mac)(mv:Value)(k:Int)(w:World)(ho:MOk c)(hm:Ints .u8 w mv c.m):Calls prog 80 #[.agg (B4 c mv).toArray,.int .i64 k] w (BgP c k w):=by
 obtain⟨hb1,k0⟩:=G9 w (B4 c mv) 48;have hlen:=B8 ho.rl mv;obtain⟨va,vc,hmv,hl1,hl2⟩:=hm.shape;have HM:=hid (hm.stays hb1);have hs1:(w.alloc (.cells (B4 c mv).toArray 48)).heap.size=w.heap.size+1:=by simp
 obtain⟨-,-,⟨c34,f34⟩,⟨c35,f35⟩⟩:=k0.tails ho.rl;have c0:=(k0 0 (.int .u32 (c.r.getD 0 0)) (by
  unfold B4;have h0:0<c.r.length:=by rw[ho.rl];decide
  rw[List.getElem?_append_left (by simpa using h0),List.getElem?_map,List.getElem?_eq_getElem h0,List.getD_eq_getElem?_getD,List.getElem?_eq_getElem h0];rfl)).1
 have HK0:=hid k0;have HB1:=hid hb1;have HMV:=hid hmv;obtain⟨cs,hcs⟩:∃cs,B4 c mv=cs:=⟨_,rfl⟩
 have HCS:=hid hcs;have HLN:=hid hlen;rw[hcs]at c34 f34 c35 f35 c0 HB1 HK0 HM hs1⊢;obtain⟨W1,hW1⟩:∃W,w.alloc (.cells cs.toArray 48)=W:=⟨_,rfl⟩
 rw[hW1]at c34 f34 c35 f35 c0 HB1 HK0 HM hs1;rw[hmv]at c34;obtain⟨r0,hr0⟩:∃x,c.r.getD 0 0=x:=⟨_,rfl⟩
 have HC:=A3Z c k;rw[hr0]at HC c0;have hws:w.heap.size<W1.heap.size:=by omega
 have HO:=hid ho;clear hm hb1 k0 hmv hcs hlen hr0 ho;rcases HC with⟨t1,he⟩|⟨t1,t2,he⟩|⟨t1,t2,t3,he⟩|⟨t1,t2,t3,t4,he⟩|⟨t1,t2,t3,t4,t5,he⟩|⟨t1,t2,t3,t4,t5,he⟩
 iterate 5
  ·have HE:=hid he;clear he;go_enter func80,ntmps80;go_wp2_with fail
   go_ret2
   exact⟨HB1.out,.inl ⟨by rw[HE.out];decide,by rw[HE.out];rfl⟩⟩
 ·have HE:=hid he;clear he;have hml:c.m.length≤32768:=by have:=of_decide_eq_false t1;omega
  have HML:=hid hml;have CC:=hid (A3e c.m (.slice va c.m.length vc) W1 (by have:=HM.out;rw[HMV.out]at this;exact this) (by omega));clear hml;go_enter func80,ntmps80;go_upto_region 6 with(go_at_call 109;(with_reducible refine CC.out.mono ?_);rintro e w2 ⟨v2,rfl,hm2,hb2⟩;obtain⟨a2,l2,k2,e2⟩:=hm2.isSlice;subst e2;have HM2:=hid hm2;have HB2:=hid hb2;have y34:=A0 hb2 hws c34;have z34:w2.frozen? ⟨w.heap.size,34,none⟩=false:=(by rw[←f34];exact World.frozen?_of_block (w:=W1) (hb2.block _ hws));have hw2:=hb2.size;clear hm2 hb2)
  have K2:=(HK0.out.below (by rw[←HCS.out,HLN.out];decide) HB2.out).set (k:=34) (by rw[←HCS.out,HLN.out];decide) (.slice a2 l2 k2);rw[←HCS.out,A0B HO.out.rl]at K2;have B6:=A6 (J4 HB1.out (by omega) HB2.out) (Nat.le_refl _) 34 (.slice a2 l2 k2);have M6:=HM2.out.set (b:=w.heap.size) (j:=34) (by omega) (.slice a2 l2 k2);obtain⟨ds,hds⟩:∃ds,B4 c (.slice a2 l2 k2)=ds:=⟨_,rfl⟩
  have HDS:=hid hds;have hszd:(prog.info? 48).map (·.size)=some ds.length:=by rw[←hds,B8 HO.out.rl];kernel_rfl
  have hld:0<ds.length:=by rw[←hds,B8 HO.out.rl];decide
  rw[hds]at K2;clear hds y34 z34;generalize w2.setCell ⟨w.heap.size,34,none⟩ (.slice a2 l2 k2)=W6 at*
  have HK6:=hid K2;have HB6:=hid B6;have HM6:=hid M6;have hrg:=K2.range;have CN:=hid R4;clear K2 B6 M6 hld;have hbl:w.heap.size<W6.heap.size:=HK6.out.lt (by rw[←HDS.out,B8 HO.out.rl];decide);have hS0:Below W6.heap.size W6 W6∧W6.rangeAt w.heap.size 0 ds:=⟨Below.refl _ _,hrg⟩
  have KN:∀wk wk',(Below W6.heap.size W6 wk∧wk.rangeAt w.heap.size 0 ds)→Below wk.heap.size wk wk'→(Below W6.heap.size W6 wk'∧wk'.rangeAt w.heap.size 0 ds):=fun wk wk' h hb=>⟨h.1.trans (hb.mono h.1.size),fun j v hj=>A0 hb (Nat.lt_of_lt_of_le hbl h.1.size) (h.2 j v hj)⟩
  have hu:=underlying48;have hlen36:ds.length=36:=by rw[←HDS.out];exact B8 HO.out.rl _
  refine wp_region_held_drew (S:=fun wk=>Below W6.heap.size W6 wk∧wk.rangeAt w.heap.size 0 ds) (by kernel_rfl) ?_ (fun hHeld=>?_)
  ·exact KN _ _ hS0 (Below.refl _ _).drew
  refine O1 0 (v:=.agg ds.toArray) rfl (by kernel_rfl) (by kernel_rfl) (by kernel_rfl) (fun _ _ _ h=>h) (yieldsIf_load_mid (by rfl) _ _ rfl w.heap.size 0 rfl ds _ (fun wk h=>h.2) hu rfl hszd) (by assumption) ?_;go_frame;refine rd1 1 (fun K hK=>?_);go_simp
  (go_at_call 56;(with_reducible refine(CN.out _).mono ?_);rintro e w7 ⟨rfl,hd7,hb7⟩)
  refine hK.out _ _ ?_ (fun hHeld=>?_)
  ·exact KN _ _ (by assumption) hb7
  clear hK K
  try go_frame
  refine tk (v:=.agg (ds++[Value.map (some W6.heap.size)]).toArray) 2 ?_ (hv:=fun w _=>by refine Eq.trans (b:=Sem.run prog ((Instr.build 160 #[(0,.agg ds.toArray),(1,.map (some W6.heap.size))])>>=fun x=>pure (Next.value x)) w) (by kernel_rfl) ?_;rw[Sem.run_bind,A4Q ds hlen36];rfl);refine rd1 3 (fun K hK=>?_);go_simp;refine hK.out _ _ ?_ (fun hHeld=>?_)
  ·exact KN _ _ (by assumption) ((Below.refl _ _).alloc (Nat.le_refl _) _)
  clear hK K
  try go_frame
  refine tk 4 ?_;refine tk 5 ?_;refine wpAnyH_done (by kernel_rfl) ?_ _;obtain⟨hb7,-⟩:Below W6.heap.size W6 w7∧w7.rangeAt w.heap.size 0 ds:=by assumption
  have HW7:=hid hb7;have HD7:=hid hd7;clear hHeld hS0 hb7 hd7;go_wp2_with fail
  go_ret2
  obtain⟨hbx,K7⟩:=G9 w7 (ds++[Value.map (some W6.heap.size)]) 160;have hr7:W6.heap.size<w7.heap.size:=HD7.out.1;have hb76:=J4 HB6.out (by have:=HB6.out.size;omega) HW7.out;have hm7:=HM6.out.below HW7.out;have hown:=fun k (h:(Value.slice a2 l2 k2).ownBlock=some k)=>HM6.out.own k h
  rw[←HDS.out]at K7;refine⟨J4 hb76 (by have:=hb76.size;omega) hbx,.inr ⟨HE.out,w7.heap.size,W6.heap.size,.slice a2 l2 k2,rfl,?_⟩⟩;rw[←HDS.out];exact{m:=K7,v:=by rw[HDS.out]at*;exact(hm7.below hbx).low (by omega),d:=by rw[HDS.out]at*;exact HD7.out.below hbx,rl:=HO.out.rl,rb:=HO.out.rb,ab:=HO.out.ab,mb:=HO.out.mb,ml:=HML.out,n1:=fun h=>by have:=(hown _ h).2;omega,n2:=fun h=>by have:=(hown _ h).2;omega,n3:=by omega,n4:=by have:=HB6.out.size;omega,n5:=by have:=HB6.out.size;omega}
theorem O6{c:Mac}(h:c.r.length=32)(v:Value):(prog.info? 48).map (·.size)=some (B4 c v).length:=by rw[B8 h];kernel_rfl
theorem A6e{c:Mac}(h:c.r.length=32)(v:Value):(prog.info? 48).map (·.size)=some (B4 c v).toArray.size:=by rw[List.size_toArray];exact O6 h v
theorem A6f{c:Mac}(h:c.r.length=32)(v:Value):36=(B4 c v).toArray.size:=by rw[List.size_toArray,B8 h]
theorem J7{c:Mac}{mv:Value}{W:World}{B:Nat}{zs:List Value}(hr:c.r.length=32)(hmv:∃a l k,mv= .slice a l k)(K:CellsAt W B zs)(hz:zs.length=36):
  ((prog.info? 48).map (·.size)=some (B4 c mv).length∧(prog.info? 48).map (·.size)=some (B4 c mv).toArray.size)∧(B4 c mv).toArray.all (·.oneCell')=true∧W.there B 0 (B4 c mv).toArray.size∧CellsAt (W.setCells B 0 (B4 c mv)) B (B4 c mv):=
 ⟨⟨O6 hr mv,by rw[List.size_toArray];exact O6 hr mv⟩,T2 hmv,K.there (by rw[B8 hr,hz]),K.setCells (by rw[B8 hr,hz])⟩
def e01:Option Value→Nat
 |some (.int _ n)=>if n=0 then 1 else 0
 |_=>0
theorem B2h(v:Option Value):e01 v≤1:=by unfold e01;split<;>(try split)<;>omega
def N6(c:Mac):Mac:=if c.e=0 then{c with e:=4}else c
end Go.Proofs.YtajljbmeaeeknaaGreat
