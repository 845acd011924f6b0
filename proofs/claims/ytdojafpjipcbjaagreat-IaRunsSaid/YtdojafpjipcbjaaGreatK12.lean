/- -/
import Derived.Deep.CutRange
import Derived.Laws.BytesArg
import Derived.Laws.StructEq
import Derived.Test.YtdojafpjipcbjaaGreatK8
import Derived.Test.YtdojafpjipcbjaaGreatK11
open Go.Proofs.Tryz
open Go.Lib (hid)
set_option maxHeartbeats 1000000
set_option maxRecDepth 100000
namespace Go.Proofs.YtdojafpjipcbjaaGreat
open Go.RowKit
set_option linter.unusedVariables false
set_option linter.unusedSimpArgs false
theorem A6U(c:Int)(hc:c=129∨c=131∨c=211∨c=247)(v:Value)(B n:Nat)(l:List Int)(z:Int)(w:World)(h:RdL w B v l n)(hby:Byt l)(hz:z=16∨z=32)(e:l.getD n 0=c):Calls prog 42 #[.pointer (some ⟨B,0,none⟩),.int .i64 z] w fun e w'=>e= .returned (D5 (U3 (l.drop n) z).1)∧RdL w' B v l (n+(U3 (l.drop n) z).2)∧But B w w':=by
 unfold U3;simp only[Y4,Y8,Nat.add_zero,e];rcases hc with rfl|rfl|rfl|rfl
 ·rw[if_pos rfl];by_cases hg:0≤B7 129 (rF (l.getD (n+1) 0))
  ·rw[if_pos hg];rcases hz with rfl|rfl
   ·exact A0G v B n l w h hby e (decide_eq_true hg)
   ·exact A0F v B n l w h hby e (decide_eq_true hg)
  ·rw[if_neg hg,Y3 (decide_eq_false hg)];rcases hz with rfl|rfl
   ·exact A0I v B n l w h hby e (decide_eq_false hg)
   ·exact A0H v B n l w h hby e (decide_eq_false hg)
 ·rw[if_neg (by decide),if_pos rfl];by_cases hg:0≤B7 131 (rF (l.getD (n+1) 0))
  ·rw[if_pos hg];rcases hz with rfl|rfl
   ·exact A0C v B n l w h hby e (decide_eq_true hg)
   ·exact A0B v B n l w h hby e (decide_eq_true hg)
  ·rw[if_neg hg,Y3 (decide_eq_false hg)];rcases hz with rfl|rfl
   ·exact A0E v B n l w h hby e (decide_eq_false hg)
   ·exact A0D v B n l w h hby e (decide_eq_false hg)
 ·rw[if_neg (by decide),if_neg (by decide)];by_cases hg:0≤B7 211 (rF (l.getD (n+1) 0))
  ·rw[if_pos hg];exact A3P v B n l z w h hby e (decide_eq_true hg)
  ·rw[if_neg hg,Y3 (decide_eq_false hg)];exact A3Q v B n l z w h hby e (decide_eq_false hg)
 ·rw[if_neg (by decide),if_neg (by decide)];by_cases hg:0≤B7 247 (rF (l.getD (n+1) 0))
  ·rw[if_pos hg];exact A3N v B n l z w h hby e (decide_eq_true hg)
  ·rw[if_neg hg,Y3 (decide_eq_false hg)];exact A3O v B n l z w h hby e (decide_eq_false hg)
theorem A3M(v:Value)(B n:Nat)(l:List Int)(z:Int)(w:World)(h:RdL w B v l n)(hby:Byt l)(hz:z=16∨z=32):Calls prog 42 #[.pointer (some ⟨B,0,none⟩),.int .i64 z] w fun e w'=>e= .returned (D5 (gsP (l.drop n) z).1)∧RdL w' B v l (n+(gsP (l.drop n) z).2)∧But B w w':=by
 have hc0:=(hby n).1;have hc1:=(hby n).2;unfold gsP;simp only[Y4,Y8,Nat.add_zero];by_cases ho:0≤H5 (l.getD n 0)
 ·rw[if_pos ho];by_cases hl:l.getD n 0<144
  ·rw[if_pos hl];exact A1m v B n l z w h hby ho (decide_eq_true hl)
  ·rw[if_neg hl];exact A1n v B n l z w h hby ho (decide_eq_false hl)
 rw[if_neg ho];by_cases c1:l.getD n 0=137∨l.getD n 0=136∨l.getD n 0=139
 ·rw[if_pos c1];rcases c1 with c|c|c
  ·exact A6R v B n l z w h hby c
  ·exact A6S v B n l z w h hby c
  ·exact A6Q v B n l z w h hby c
 rw[if_neg c1];by_cases c2:184≤l.getD n 0∧l.getD n 0≤191
 ·rw[if_pos c2];rcases hz with rfl|rfl
  ·exact A0z v B n l w h hby ho c2.1 c2.2
  ·exact A0y v B n l w h hby ho c2.1 c2.2
 rw[if_neg c2];by_cases c3:l.getD n 0=129∨l.getD n 0=131∨l.getD n 0=211∨l.getD n 0=247
 ·rw[if_pos c3];exact A6U _ c3 v B n l z w h hby hz rfl
 rw[if_neg c3];by_cases c4:112≤l.getD n 0∧l.getD n 0≤127
 ·rw[if_pos c4];exact A4s v B n l z w h hby ho c4.1 c4.2
 rw[if_neg c4];by_cases c5:l.getD n 0=235
 ·rw[if_pos c5];exact A6O v B n l z w h hby c5
 rw[if_neg c5];by_cases c6:l.getD n 0=233
 ·rw[if_pos c6];exact A6P v B n l z w h hby c6
 rw[if_neg c6];by_cases c7:l.getD n 0=15
 ·rw[if_pos c7];exact A9V v B n l z w h hby c7
 rw[if_neg c7];have N:∀k:Int,l.getD n 0≠k→(l.getD n 0==k)=false:=fun k hk=>A8 hk
 by_cases d1:l.getD n 0≤111
 ·exact A4r v B n l z w h hby ho hc0 d1 (N _ (by omega)) (N _ (by omega)) (N _ (by omega)) (N _ (by omega)) (N _ (by omega)) (N _ (by omega)) (N _ (by omega)) (N _ (by omega)) (N _ (by omega)) (N _ (by omega))
 by_cases d2:l.getD n 0≤183
 ·exact A4q v B n l z w h hby ho (by omega) d2 (N _ (by omega)) (N _ (by omega)) (N _ (by omega)) (N _ (by omega)) (N _ (by omega)) (N _ (by omega)) (N _ (by omega)) (N _ (by omega)) (N _ (by omega)) (N _ (by omega))
 ·exact A4p v B n l z w h hby ho (by omega) (by omega) (N _ (by omega)) (N _ (by omega)) (N _ (by omega)) (N _ (by omega)) (N _ (by omega)) (N _ (by omega)) (N _ (by omega)) (N _ (by omega)) (N _ (by omega)) (N _ (by omega))
theorem A7S{p:Prop}(h:p:=by
 go_wp2_with fail
 go_quiet(fail)
 go_wp2_with fail
 go_roundw
 case rel=>exact⟨j+1,by omega,by go_num,(fun i hi=>by
  by_cases e:i=j
  ·rw[e,HXJ.out,HYJ.out];exact HC.out
  ·exact hno.out i (by omega)),_,rfl⟩
 case measure=>simp[intOf];omega
 ):p:=h
theorem A1I{xs ys:List Int}(hl:xs.length=ys.length)(h:∀i,i<xs.length→xs.getD i 0=ys.getD i 0):xs=ys:=by
 apply List.ext_getElem hl;intro i h1 h2;have:=h i h1;rw[List.getD_eq_getElem?_getD,List.getD_eq_getElem?_getD,List.getElem?_eq_getElem h1,List.getElem?_eq_getElem h2]at this;exact this
set_option maxHeartbeats 4000000 in
theorem A3V(xs ys:List Int)(v u:Value)(w:World)(hv:Ints .u8 w v xs)(hu:Ints .u8 w u ys):Calls prog 43 #[v,u] w fun e w'=>e= .returned (.bool (decide (xs=ys)))∧Dr w w':=by
 have HX:=hid hv;have HY:=hid hu;obtain⟨a,c,rfl,h1,h2⟩:=hv.shape;obtain⟨a2,c2,rfl,k1,k2⟩:=hu.shape;clear hv hu;cases hne:((xs.length:Int) !=ys.length)
 ·have hl:xs.length=ys.length:=by
   have h:(xs.length:Int)=ys.length:=by simpa using hne
   omega
  have HL:=hid hl;clear hl;go_enter func43,ntmps43;go_wp2_with fail
  go_loopw[13] (fun i wr=>∃j:Nat,j≤xs.length∧i= .int .i64 j∧Hid (∀i,i<j→xs.getD i 0=ys.getD i 0)∧Dr w wr) (fun i _=>xs.length-(intOf i).toNat)
  case atStart=>exact⟨0,Nat.zero_le _,rfl,(fun i hi=>absurd hi (by omega)),Dr.refl _⟩
  case round=>
   obtain⟨j,hj,rfl,hno,n,rfl⟩:=hrel;by_cases hlt:j<xs.length
   ·have hlt2:j<ys.length:=by have:=HL.out;omega
    obtain⟨b,q,c',e',_,_,d0⟩:=HX.out.at hlt;cases e';obtain⟨b2,q2,c2',e',_,_,d1⟩:=HY.out.at hlt2;cases e';generalize hx:xs.getD j 0=x at*
    generalize hy:ys.getD j 0=y at*
    have HXJ:=hid hx;have HYJ:=hid hy;clear hx hy;cases hc:(x !=y)
    ·have HC:Hid (x=y):=by
      have:x=y:=by simpa using hc
      exact this
     exact A7S
    ·have HV:Hid (decide (xs=ys)=false):=by
      have hc':x≠y:=by simpa using hc
      show _=_
      rw[decide_eq_false_iff_not];intro e;exact hc' (by rw[←HXJ.out,←HYJ.out,e])
     go_wp2_with fail
     go_quiet(fail)
     go_wp2_with fail
     go_ret;exact⟨S6 HV.out.symm,_,by first|rfl|exact World.drewN_drewN _ _ _⟩
   ·have HV:Hid (decide (xs=ys)=true):=by
     show _=_
     rw[decide_eq_true_iff];exact A1I HL.out (fun i hi=>hno.out i (by omega))
    go_wp2_with fail
    go_ret;exact⟨S6 HV.out.symm,_,rfl⟩
 ·have HV:Hid (decide (xs=ys)=false):=by
   have hl:xs.length≠ys.length:=by intro e;rw[e]at hne;simp at hne
   show _=_
   rw[decide_eq_false_iff_not];intro e;exact hl (by rw[e])
  go_enter func43,ntmps43;go_wp2_with fail
  go_ret;exact⟨S6 HV.out.symm,0,rfl⟩
theorem R8{xs ys:List Int}:ys<+:xs↔ys.length≤xs.length∧∀i,i<ys.length→xs.getD i 0=ys.getD i 0:=by
 constructor
 ·rintro⟨t,rfl⟩;exact⟨by simp,fun i hi=>l5 hi⟩
 ·rintro⟨hl,h⟩;refine⟨xs.drop ys.length,?_⟩;have e:xs.take ys.length=ys:=by
   apply A1I
   ·rw[List.length_take];omega
   ·intro i hi;rw[List.length_take]at hi;rw[←h i (by omega)];simp[List.getD_eq_getElem?_getD,List.getElem?_take,show i<ys.length by omega]
  exact(congrArg (fun q=>q++xs.drop ys.length) e.symm).trans (List.take_append_drop _ _)
set_option maxHeartbeats 4000000 in
theorem A2H(xs ys:List Int)(v u:Value)(w:World)(hv:Ints .u8 w v xs)(hu:Ints .u8 w u ys):Calls prog 85 #[v,u] w fun e w'=>e= .returned (.bool (decide (ys<+:xs)))∧Dr w w':=by
 have HX:=hid hv;have HY:=hid hu;obtain⟨a,c,rfl,h1,h2⟩:=hv.shape;obtain⟨a2,c2,rfl,k1,k2⟩:=hu.shape;clear hv hu;by_cases hne:xs.length<ys.length
 ·have HV:Hid (decide (ys<+:xs)=false):=by
   show _=_
   rw[decide_eq_false_iff_not];intro e;have:=e.length_le;omega
  have hne':decide (xs.length<ys.length)=true:=decide_eq_true (by omega);go_enter func85,ntmps85;go_wp2_with fail
  go_ret;exact⟨S6 HV.out.symm,0,rfl⟩
 ·have hne':decide (xs.length<ys.length)=false:=decide_eq_false (by omega);have HL:Hid (ys.length≤xs.length):=hid (by omega);clear hne;go_enter func85,ntmps85;go_wp2_with fail
  go_loopw[5] (fun i wr=>∃j:Nat,j≤ys.length∧i= .int .i64 j∧Hid (∀i,i<j→xs.getD i 0=ys.getD i 0)∧Dr w wr) (fun i _=>ys.length-(intOf i).toNat)
  case atStart=>exact⟨0,Nat.zero_le _,rfl,(fun i hi=>absurd hi (by omega)),Dr.refl _⟩
  case round=>
   obtain⟨j,hj,rfl,hno,n,rfl⟩:=hrel;by_cases hlt2:j<ys.length
   ·have hlt:j<xs.length:=by have:=HL.out;omega
    obtain⟨b,q,c',e',_,_,d0⟩:=HX.out.at hlt;cases e';obtain⟨b2,q2,c2',e',_,_,d1⟩:=HY.out.at hlt2;cases e';generalize hx:xs.getD j 0=x at*
    generalize hy:ys.getD j 0=y at*
    have HXJ:=hid hx;have HYJ:=hid hy;clear hx hy;cases hc:(x !=y)
    ·have HC:Hid (x=y):=by
      have:x=y:=by simpa using hc
      exact this
     exact A7S
    ·have HV:Hid (decide (ys<+:xs)=false):=by
      have hc':x≠y:=by simpa using hc
      show _=_
      rw[decide_eq_false_iff_not];intro e;exact hc' (by rw[←HXJ.out,←HYJ.out];exact(R8.1 e).2 j hlt2)
     go_wp2_with fail
     go_quiet(fail)
     go_wp2_with fail
     go_ret;exact⟨S6 HV.out.symm,_,by first|rfl|exact World.drewN_drewN _ _ _⟩
   ·have HV:Hid (decide (ys<+:xs)=true):=by
     show _=_
     rw[decide_eq_true_iff];exact R8.2 ⟨HL.out,fun i hi=>hno.out i (by omega)⟩
    go_wp2_with fail
    go_ret;exact⟨S6 HV.out.symm,_,rfl⟩
section
variable {P : Program} {l : List Oper} {Q : Exit → Act → World → Prop} {md : Region.Mode} {S : World → Prop}
theorem tk(i:Nat){oi:Oper}{v:Value}{fuel:Nat}{listed:Array Bool}{a a':Act}{w:World}
  (h:wpAnyH P md l.toArray Q S fuel (listed.setIfInBounds i true) a' w)
  (hi:(l.drop i).head? =some oi:=by rfl)
  (hs:Region.noSelect l.toArray=true:=by kernel_rfl) (hf:Region.free md l.toArray listed i=true:=by kernel_rfl) (hr:(Region.ready md l.toArray listed).contains i=true:=by kernel_rfl)
  (hw:Region.wanted oi (yielded l.toArray a.tmps)=true:=by rfl)
  (hv:∀w,S w→(execOp a.eval oi).run P w= .ok (.value v) w:=by(intro w hSw;(try dsimp only at hSw);go_simp;(try with_reducible rfl)))
  (hQ:∀c a w,Q (.panic c) (a.put oi.dst v) w→Q (.panic c) a w:=by exact fun _ _ _ h=>h)
  (hS:S w:=by assumption)
  (ha:a.put oi.dst v=a':=by first|(go_frame;done)|(go_frame;rfl)|rfl):wpAnyH P md l.toArray Q S (fuel+1) listed a w:=by
 subst ha;exact V7 i hi hs hf hr hQ (Or.inl ⟨hw,hv⟩) hS h
theorem sk(i:Nat){oi:Oper}{fuel:Nat}{listed:Array Bool}{a a':Act}{w:World}
  (h:wpAnyH P md l.toArray Q S fuel (listed.setIfInBounds i true) a' w)
  (hi:(l.drop i).head? =some oi:=by rfl)
  (hs:Region.noSelect l.toArray=true:=by kernel_rfl) (hf:Region.free md l.toArray listed i=true:=by kernel_rfl) (hr:(Region.ready md l.toArray listed).contains i=true:=by kernel_rfl)
  (hw:Region.wanted oi (yielded l.toArray a.tmps)=false:=by rfl)
  (hQ:∀c a w,Q (.panic c) (a.put oi.dst undef) w→Q (.panic c) a w:=by exact fun _ _ _ h=>h)
  (hS:S w:=by assumption)
  (ha:a.put oi.dst undef=a':=by first|(go_frame;done)|(go_frame;rfl)|rfl):wpAnyH P md l.toArray Q S (fuel+1) listed a w:=by
 subst ha;exact V7 i hi hs hf hr hQ (Or.inr ⟨hw,rfl⟩) hS h
theorem rd1(i:Nat){oi:Oper}{fuel:Nat}{listed:Array Bool}{a:Act}{w:World}
  (h:∀K':Act→World→Prop,Shut (∀a w,S w→(S w→wpAnyH P md l.toArray Q S fuel (listed.setIfInBounds i true) a w)→K' a w)→if Region.wanted oi (yielded l.toArray a.tmps)=true then Oper.wp P oi a w K' Q else K' (a.put oi.dst undef) w)
  (hi:(l.drop i).head? =some oi:=by rfl) (hr:Region.ready md l.toArray listed=[i]:=by kernel_rfl):wpAnyH P md l.toArray Q S (fuel+1) listed a w:=
 wpAnyH_ready hr (by simp) (A1 i hi h AllReadyH.nil)
end
section
variable {W0 w : World}
theorem Q6{W w:World}(h:Since W w):W.heap.size≤w.heap.size:=h.size
theorem kp(h:Since W0 w:=by first|assumption|exact Since.drew (by assumption)|exact Since.next (by assumption) ((Below.refl _ _).alloc (Nat.le_refl _) _)):Since W0 w:=h
theorem bl1{o:Obj}:Below w.heap.size w (w.alloc o):=(Below.refl _ _).alloc (Nat.le_refl _) _
theorem f6{o:Obj}:Below w.heap.size w (w.alloc o).drew:=A9 ((Below.refl _ _).alloc (Nat.le_refl _) _) 1
theorem rl1(a:Int)(h:W0.heap.size≤w.heap.size:=by first|exact Nat.le_refl _|exact Q6 (by assumption)):RowI (w.alloc (.cells #[.int .u8 a] 5)) W0.heap.size 5 .u8 (.slice (some ⟨w.heap.size,0,none⟩) 1 1) [a]:=
 RowI.lit w #[.int .u8 a] [a] .u8 5 W0.heap.size 1 h rfl rfl (by unfold maxLen;simp)
theorem X5(a:Int)(h:W0.heap.size≤w.heap.size:=by first|exact Nat.le_refl _|exact Q6 (by assumption)):RowI (w.alloc (.cells #[.int .u8 a] 5)).drew W0.heap.size 5 .u8 (.slice (some ⟨w.heap.size,0,none⟩) 1 1) [a]:=
 RowI.litd w #[.int .u8 a] [a] .u8 5 W0.heap.size 1 h rfl rfl (by unfold maxLen;simp)
theorem rl2(a b:Int)(h:W0.heap.size≤w.heap.size:=by first|exact Nat.le_refl _|exact Q6 (by assumption)):RowI (w.alloc (.cells #[.int .u8 a,.int .u8 b] 5)) W0.heap.size 5 .u8 (.slice (some ⟨w.heap.size,0,none⟩) 2 2) [a,b]:=
 RowI.lit w #[.int .u8 a,.int .u8 b] [a,b] .u8 5 W0.heap.size 2 h rfl rfl (by unfold maxLen;simp)
theorem m3(a b:Int)(h:W0.heap.size≤w.heap.size:=by first|exact Nat.le_refl _|exact Q6 (by assumption)):RowI (w.alloc (.cells #[.int .u8 a,.int .u8 b] 5)).drew W0.heap.size 5 .u8 (.slice (some ⟨w.heap.size,0,none⟩) 2 2) [a,b]:=
 RowI.litd w #[.int .u8 a,.int .u8 b] [a,b] .u8 5 W0.heap.size 2 h rfl rfl (by unfold maxLen;simp)
theorem ap{ops:Array Oper}{o:Oper}{a:Act}{K:Act→World→Prop}{Q:Exit→Act→World→Prop}{E:Prop}{s x:Operand}(xs:List Int){v:Value}(hown:RowI w W0.heap.size 5 .u8 v xs)
  (ys:List Int) {u:Value} (hu:Ints .u8 w u ys) (hm:0<ys.length) (hl:xs.length+ys.length≤100000) (hbase:W0.heap.size≤w.heap.size)
  (h:∀v' w',Hid (RowI w' W0.heap.size 5 .u8 v' (xs++ys))→Below W0.heap.size w w'→Since W0 w'→K (a.put o.dst v') w')
  (hgd:o.guard=none:=by rfl) (ho:o.op= .call {callee:=.builtin .append,args:=#[s,x],argTypes:=#[24,24]}:=by rfl)
  (hs:a.eval s=v:=by rfl) (hx:a.eval x=u:=by rfl) (hS:Since W0 w:=by assumption):if Region.wanted o (yielded ops a.tmps)=true then Oper.wp prog o a w K Q else E:=
 A0b hgd s x ho W0.heap.size v xs hs hown u ys hx hu hm hl hbase (fun v' w' h1 h2=>h v' w' (hid h1) h2 (B3 hS h2))
end
end Go.Proofs.YtdojafpjipcbjaaGreat
namespace Go.Proofs.YtdojafpjipcbjaaGreat
open Go.RowKit
set_option linter.unusedVariables false
set_option linter.unusedSimpArgs false
theorem A8p{p:Prop}(h:p:=by
 go_wp2_with fail
 refine bodyPost_ret (v:=.tuple #[D5 ⟨0,0,0,0,0⟩,.int .i64 0,.bool false]) (by simp[results,results24,go_sem,D5,q0b,q1b,q2b,q3b,q4b]) rfl ⟨?_,?_⟩
 ·rw[HN0.out.1,HN0.out.2.1,HN0.out.2.2];rfl
 ·(try with_reducible refine Below.drew ?_);exact B6 HBx.out (Nat.le_refl _) _ _ _ _ _
 ):p:=h
theorem A1b{p:Prop}(h:p:=by
 (first|assumption|exact Since.drew (by assumption)|exact Since.next (by assumption) (by assumption))
 ):p:=h
theorem A5x{p:Prop}(h:p:=by
 cases e';rw[Nat.add_zero]at h7;generalize l.getD 0 0=y at*
 go_wp2_with fail
 go_meet
 case rel=>exact⟨rfl,rfl⟩
 ):p:=h
theorem But.out{B:Nat}{w W W':World}(h:But B W W')(hw:Below w.heap.size w W)(hB:w.heap.size≤B):Below w.heap.size w W':=
 ⟨h.os.trans hw.os,h.tape.trans hw.tape,h.output.trans hw.output,Nat.le_trans hw.size h.size,fun k hk=>(h.block k (Nat.lt_of_lt_of_le hk hw.size) (by omega)).trans (hw.block k hk)⟩
structure DSt(w:World)(v:Value)(l:List Int)(n:Nat)(W:World):Prop where
 r:RdL W (w.heap.size+1) v l n
 x:Box5 W w.heap.size 0 0 0 0 0
 b:Below w.heap.size w W
theorem DSt.call{w W W':World}{v:Value}{l:List Int}{n n':Nat}(h:DSt w v l n W)(hr:RdL W' (w.heap.size+1) v l n')(hb:But (w.heap.size+1) W W'):DSt w v l n' W':=
 ⟨hr,h.x.but hb (by omega),hb.out h.b (by omega)⟩
theorem DSt.below{w W W':World}{v:Value}{l:List Int}{n:Nat}(h:DSt w v l n W)(hb:Below W.heap.size W W'):DSt w v l n W':=
 ⟨h.r.stays hb,(hb.block _ h.x.lt).trans h.x,A2 h.b hb⟩
theorem DSt.drew{w W:World}{v:Value}{l:List Int}{n:Nat}(h:DSt w v l n W):DSt w v l n W.drew:=h.below (A9 (Below.refl _ _) 1)
theorem DSt.start{w:World}{v:Value}{l:List Int}(hv:Ints .u8 w v l):DSt w v l 0 ((w.alloc (.cells #[.int .i64 0,.int .i64 0,.int .i64 0,.int .i64 0,.int .i64 0] 61)).alloc (.cells #[v,.int .i64 0,.bool false] 91)):=by
 have hb:=((Below.refl w.heap.size w).alloc (Nat.le_refl _) (.cells #[.int .i64 0,.int .i64 0,.int .i64 0,.int .i64 0,.int .i64 0] 61)).alloc (by simp) (.cells #[v,.int .i64 0,.bool false] 91);refine⟨⟨?_,hv.stays hb,fun b q n c e hn=>?_⟩,?_,hb⟩
 ·unfold Rdr;rw[show((w.alloc (.cells #[.int .i64 0,.int .i64 0,.int .i64 0,.int .i64 0,.int .i64 0] 61)).alloc (.cells #[v,.int .i64 0,.bool false] 91)).heap=(w.heap.push (.cells #[.int .i64 0,.int .i64 0,.int .i64 0,.int .i64 0,.int .i64 0] 61)).push (.cells #[v,.int .i64 0,.bool false] 91)from rfl];rw[Array.getElem?_push];simp
 ·obtain⟨a,c',e',_⟩:=hv.shape;have hl:0<l.length:=by rw[e']at e;injection e;omega
  obtain⟨b',q',c2,e2,_,hlt,_⟩:=hv.at hl;rw[e2]at e;injection e with e3
  injection e3 with e4
  injection e4 with e5
  omega
 ·exact(Box5.new w 0 0 0 0 0).but ((But.refl (w.heap.size+1) _).alloc _) (by omega)
theorem DSt.one{w W:World}{v:Value}{l:List Int}(h:DSt w v l 0 W)(hl:0<l.length):DSt w v l 1 (W.setCell ⟨w.heap.size+1,1,none⟩ (.int .i64 1)):=by
 have hb:But (w.heap.size+1) W (W.setCell ⟨w.heap.size+1,1,none⟩ (.int .i64 1)):=(But.refl _ _).setCell 1 _;exact h.call ⟨h.r.r.more hl,h.r.l.but hb h.r.off,h.r.off⟩ hb
def N2(l:List Int):Ins:=match S5 l with|some (x,_)=>x|none=>⟨0,0,0,0,0⟩
def R9(l:List Int):Nat:=match S5 l with|some (_,n)=>n|none=>0
def Q3(l:List Int):Bool:=(S5 l).isSome
theorem S9{l:List Int}(h:S5 l=none):N2 l=⟨0,0,0,0,0⟩∧R9 l=0∧Q3 l=false:=by simp[N2,R9,Q3,h]
theorem S8{l:List Int}{x:Ins}{n:Nat}(h:S5 l=some (x,n)):N2 l=x∧R9 l=n∧Q3 l=true:=by simp[N2,R9,Q3,h]
theorem Ints.take{k:IntKind}{w:World}{a:Option Addr}{c m:Nat}{xs:List Int}(h:Ints k w (.slice a xs.length c) xs)(hm:m≤xs.length):Ints k w (.slice a m c) (xs.take m):=by
 obtain⟨a',c',e,h1,h2,h3,h4⟩:=h;cases e;have hl:(xs.take m).length=m:=by rw[List.length_take];omega
 refine⟨a,c,by rw[hl],by omega,by omega,h3,fun i hi=>?_⟩;rw[hl]at hi;obtain⟨b,o,e',h5,h6⟩:=h4 i (by omega);refine⟨b,o,e',h5,?_⟩;show w.cell? _=_
 rw[h6];simp[List.getD_eq_getElem?_getD,List.getElem?_take,hi]
theorem B6{w W:World}{b:Nat}(h:Below w.heap.size w W)(hb:w.heap.size≤b)(u0 u1 u2 u3 u4:Value):Below w.heap.size w (((((W.setCell ⟨b,0,none⟩ u0).setCell ⟨b,1,none⟩ u1).setCell ⟨b,2,none⟩ u2).setCell ⟨b,3,none⟩ u3).setCell ⟨b,4,none⟩ u4):=
 ((((h.setCell (p:=⟨b,0,none⟩) hb u0).setCell (p:=⟨b,1,none⟩) hb u1).setCell (p:=⟨b,2,none⟩) hb u2).setCell (p:=⟨b,3,none⟩) hb u3).setCell (p:=⟨b,4,none⟩) hb u4
theorem j5(l:List Int):O1 l=16∨O1 l=32:=by unfold O1;split<;>simp
theorem l7(l:List Int)(v:Value)(w:World)(hv:Ints .u8 w v l)(hby:Byt l):Calls prog 24 #[v] w fun e w'=>e= .returned (.tuple #[D5 (N2 l),.int .i64 (R9 l),.bool (Q3 l)])∧Below w.heap.size w w':=by
 have HV:=hid hv;have HS:=hid (DSt.start hv);have HBY:=hid hby;obtain⟨va,vc,rfl,hl1,hl2⟩:=hv.shape;obtain⟨p,hp⟩:∃p,(l.getD 0 0==102)=p:=⟨_,rfl⟩
 have hpre:N1 l=(if p then 1 else 0):=by rw[←hp];unfold N1;by_cases h:l.getD 0 0=102<;>simp[h]
 have hsiz:O1 l=(if p then 16 else 32):=by rw[←hp];unfold O1;by_cases h:l.getD 0 0=102<;>simp[h]
 have hp0:p=true→0<l.length:=fun h=>by
  rcases l with _|⟨a,r⟩
  ·rw[h]at hp;simp at hp
  ·simp
 have HP0:=hid hp0;have HPRE:=hid hpre;have HSIZ:=hid hsiz;have HZ:=hid (j5 l);obtain⟨x,hx⟩:∃x,(gsP (l.drop (N1 l)) (O1 l)).1=x:=⟨_,rfl⟩
 obtain⟨k,hk⟩:∃k,(gsP (l.drop (N1 l)) (O1 l)).2=k:=⟨_,rfl⟩
 have HX:=hid hx;have HK:=hid hk;obtain⟨z,hz⟩:∃z,O1 l=z:=⟨_,rfl⟩
 obtain⟨n,hn⟩:∃n,N1 l=n:=⟨_,rfl⟩
 have HG:Hid (∀W,DSt w (.slice va l.length vc) l n W→Calls prog 42 #[.pointer (some ⟨w.heap.size+1,0,none⟩),.int .i64 z] W fun e w'=>e= .returned (D5 x)∧DSt w (.slice va l.length vc) l (n+k) w'):=fun W h=>by
  have:=A3M _ _ n l z W h.r HBY.out (hz▸HZ.out);rw[←hn,←hz,HX.out,HK.out,hn,hz]at this;exact this.mono fun e w' hh=>⟨hh.1,h.call hh.2.1 hh.2.2⟩
 have HZN:=hid hz;have HNN:=hid hn;clear hx hk hv hby hpre hsiz hp0 hz hn;go_enter func24,ntmps24;go_upto_region 3 with fail
 obtain⟨W3,hW3⟩:∃W,(w.alloc (.cells #[.int .i64 0,.int .i64 0,.int .i64 0,.int .i64 0,.int .i64 0] 61)).alloc (.cells #[.slice va l.length vc,.int .i64 0,.bool false] 91)=W:=⟨_,rfl⟩
 rw[hW3]at HS⊢;clear hW3
 go_cut[19]from 11 to 18 (fun b wx=>b= .bool p∧W3=wx)
 case first=>
  cases p
  ·by_cases h0:0<l.length
   ·have d0:decide (0<l.length)=true:=decide_eq_true h0;obtain⟨b,q,c,e',h5,h6,h7⟩:=HS.out.r.l.at h0;exact A5x
   ·have d0:decide (0<l.length)=false:=decide_eq_false h0;go_wp2_with fail
    go_meet
    case rel=>exact⟨rfl,rfl⟩
  ·have h0:=HP0.out rfl;have d0:decide (0<l.length)=true:=decide_eq_true h0;obtain⟨b,q,c,e',h5,h6,h7⟩:=HS.out.r.l.at h0;exact A5x
 case rest=>
  obtain⟨rfl,rfl⟩:=hcut;clear hp
  go_upto_if 19 with fail
  go_cut[6]from 20 to 22 (fun s wx=>s= .int .i64 z∧DSt w (.slice va l.length vc) l n wx)
  case first=>
   cases p
   ·have HQ:Hid (z=32∧n=0):=⟨by rw[←HZN.out,HSIZ.out];rfl,by rw[←HNN.out,HPRE.out];rfl⟩
    go_wp2_with fail
    go_meet
    case rel=>exact⟨by rw[HQ.out.1],by rw[HQ.out.2];exact HS.out⟩
   ·have HQ:Hid (z=16∧n=1):=⟨by rw[←HZN.out,HSIZ.out];rfl,by rw[←HNN.out,HPRE.out];rfl⟩
    have h0:=HP0.out rfl;have c1:=HS.out.r.r.c1;have f1:=HS.out.r.r.free 1;have HD:=hid (HS.out.one h0);go_wp2_with fail
    go_meet
    case rel=>exact⟨by rw[HQ.out.1],by rw[HQ.out.2];exact HD.out⟩
  case rest=>
   obtain⟨rfl,hd⟩:=hcut;obtain⟨o,d,s,z2,i⟩:=x;have HG2:Hid (∀W,DSt w (.slice va l.length vc) l n W→Calls prog 42 #[.pointer (some ⟨w.heap.size+1,0,none⟩),.int .i64 z] W fun e w'=>e= .returned (.agg #[.int .i64 o,.int .i64 d,.int .i64 s,.int .i64 z2,.int .i64 i])∧DSt w (.slice va l.length vc) l (n+k) w'):=HG;go_upto_region 7 with((with_reducible refine(HG2.out _ hd).mono ?_);rintro e w5 ⟨rfl,hd5⟩)
   obtain⟨W4,hW4⟩:∃W,w5.alloc (.cells #[.int .i64 o,.int .i64 d,.int .i64 s,.int .i64 z2,.int .i64 i] 61)=W:=⟨_,rfl⟩
   have hb4:Below w5.heap.size w5 W4:=by rw[←hW4];exact(Below.refl _ _).alloc (Nat.le_refl _) _
   have hd4:=hd5.below hb4;have hx4:Box5 W4 w5.heap.size o d s z2 i:=by rw[←hW4];exact Box5.new w5 o d s z2 i
   have hlt5:w5.heap.size<W4.heap.size:=hx4.lt;have hltR:w.heap.size+1<W4.heap.size:=hd4.r.r.lt;have hge5:w.heap.size≤w5.heap.size:=hd5.b.size;rw[hW4];clear hW4 hb4 hd hd5;obtain⟨N,hN⟩:∃N,n+k=N:=⟨_,rfl⟩
   rw[hN]at hd4;have HD4:=hid hd4;have HX4:=hid hx4;have h00:=Since.refl W4;have hcx:=hx4.cells.1;have hcq:=hd4.x.cells;have hr1:=hd4.r.r.c1;have hr2:=hd4.r.r.c2;have HDN:Hid (S5 l=if(N≤l.length∧okI ⟨o,d,s,z2,i⟩=true)∧H7 ⟨o,d,s,z2,i⟩=l.take N then some (⟨o,d,s,z2,i⟩,N)else none):=by
    show _=_
    unfold S5;rw[HX.out,HK.out,HNN.out,hN]
   clear HX HK HZN HNN HG HG2 HV HS HP0 HPRE HSIZ HZ hN hx4 hd4;obtain⟨x0,x1,x2,x3,x4⟩:=hcx;obtain⟨⟨q0,q1,q2,q3,q4⟩,qf⟩:=hcq;have f0:=qf 0;have f1:=qf 1;have f2:=qf 2;have f3:=qf 3;have f4:=qf 4;clear qf;by_cases hsh:l.length<N
   ·rw[decide_eq_true hsh]at hr2;have HN0:=hid (S9 (l:=l) (by rw[HDN.out,if_neg (fun h=>absurd h.1.1 (by omega))]));have hr2s:∀wk,Since W4 wk→wk.cell? ⟨w.heap.size+1,2,none⟩=some (.bool true):=fun wk h=>h.cell hr2
    refine wp_region_held_drew (S:=(fun wk=>Since W4 wk)) (by kernel_rfl) ?_ (fun hHeld=>?_)
    ·exact A1b
    refine tk 0 ?_;refine tk 1 ?_;refine tk 2 ?_;refine tk 3 ?_;refine tk 4 ?_;refine sk 5 ?_;refine sk 6 ?_;refine sk 7 ?_;refine tk 8 ?_;refine tk 9 ?_;refine sk 10 ?_;refine sk 11 ?_;refine sk 12 ?_;refine sk 13 ?_;refine sk 14 ?_;refine sk 15 ?_;refine sk 16 ?_;refine sk 17 ?_;refine sk 18 ?_;refine sk 19 ?_;refine tk 20 ?_;refine wpAnyH_done (by kernel_rfl) ?_ _;have q0b:=Since.cell h00 q0;have q1b:=Since.cell h00 q1;have q2b:=Since.cell h00 q2;have q3b:=Since.cell h00 q3;have q4b:=Since.cell h00 q4;have f0b:=Since.free h00 (Nat.lt_of_succ_lt hltR) f0;have f1b:=Since.free h00 (Nat.lt_of_succ_lt hltR) f1;have f2b:=Since.free h00 (Nat.lt_of_succ_lt hltR) f2;have f3b:=Since.free h00 (Nat.lt_of_succ_lt hltR) f3;have f4b:=Since.free h00 (Nat.lt_of_succ_lt hltR) f4;have HBx:=hid (A2 HD4.out.b h00);exact A8p
   ·have hle:N≤l.length:=by omega
    rw[decide_eq_false hsh]at hr2;rw[Nat.min_eq_left hle]at hr1;have hNc:N≤vc:=by omega
    have hr2s:∀wk,Since W4 wk→wk.cell? ⟨w.heap.size+1,2,none⟩=some (.bool false):=fun wk h=>h.cell hr2
    have hr1s:∀wk,Since W4 wk→wk.cell? ⟨w.heap.size+1,1,none⟩=some (.int .i64 N):=fun wk h=>h.cell hr1
    have x0s:∀wk,Since W4 wk→wk.cell? ⟨w5.heap.size,0,none⟩=some (.int .i64 o):=fun wk h=>h.cell x0
    have x1s:∀wk,Since W4 wk→wk.cell? ⟨w5.heap.size,1,none⟩=some (.int .i64 d):=fun wk h=>h.cell x1
    have x2s:∀wk,Since W4 wk→wk.cell? ⟨w5.heap.size,2,none⟩=some (.int .i64 s):=fun wk h=>h.cell x2
    have x3s:∀wk,Since W4 wk→wk.cell? ⟨w5.heap.size,3,none⟩=some (.int .i64 z2):=fun wk h=>h.cell x3
    have x4s:∀wk,Since W4 wk→wk.cell? ⟨w5.heap.size,4,none⟩=some (.int .i64 i):=fun wk h=>h.cell x4
    cases hok:okI ⟨o,d,s,z2,i⟩
    ·have HN0:=hid (S9 (l:=l) (by rw[HDN.out,if_neg (fun h=>by rw[hok]at h;exact absurd h.1.2 (by simp))]));have CV:Hid (∀wk,Calls prog 39 #[.agg #[.int .i64 o,.int .i64 d,.int .i64 s,.int .i64 z2,.int .i64 i]] wk fun e w'=>e= .returned (.int .i64 1)∧Below wk.heap.size wk w'):=fun wk=>by
      have:=Q5 ⟨o,d,s,z2,i⟩ wk;rw[show vaI ⟨o,d,s,z2,i⟩=1 by unfold vaI;rw[hok];rfl]at this;exact this
     clear hok;refine wp_region_held_drew (S:=(fun wk=>Since W4 wk)) (by kernel_rfl) ?_ (fun hHeld=>?_)
     ·exact A1b
     refine tk 0 ?_;refine tk 1 ?_;refine tk 2 ?_;refine tk 3 ?_;refine tk 4 ?_;refine tk 5 ?_;refine rd1 6 (fun K hK=>?_)
     (go_simp;first|((with_reducible refine(CV.out _).mono ?_);rintro e w6 ⟨rfl,hb6⟩;have hs6:=Since.next (by assumption) hb6)|((with_reducible refine(CB.out _).mono ?_);rintro e w7 ⟨v7,rfl,hr7,hb7⟩;have HR7:=hid hr7;have hs7:=Since.next (by assumption) hb7;clear hr7)|((with_reducible refine(CE.out _ _ kp (HR7.out.ints HLB.out)).mono ?_);rintro e w8 ⟨rfl,hd8⟩;have hs8:=Since.dr (by assumption) hd8))
     refine hK.out _ _ ?_ (fun hHeld=>?_)
     ·exact A1b
     clear hK K
     try go_frame
     refine tk 7 ?_;refine tk 8 ?_;refine tk 9 ?_;refine sk 10 ?_;refine sk 11 ?_;refine sk 12 ?_;refine sk 13 ?_;refine sk 14 ?_;refine sk 15 ?_;refine sk 16 ?_;refine sk 17 ?_;refine sk 18 ?_;refine sk 19 ?_;refine tk 20 ?_;refine wpAnyH_done (by kernel_rfl) ?_ _;have q0b:=Since.cell hs6 q0;have q1b:=Since.cell hs6 q1;have q2b:=Since.cell hs6 q2;have q3b:=Since.cell hs6 q3;have q4b:=Since.cell hs6 q4;have f0b:=Since.free hs6 (Nat.lt_of_succ_lt hltR) f0;have f1b:=Since.free hs6 (Nat.lt_of_succ_lt hltR) f1;have f2b:=Since.free hs6 (Nat.lt_of_succ_lt hltR) f2;have f3b:=Since.free hs6 (Nat.lt_of_succ_lt hltR) f3;have f4b:=Since.free hs6 (Nat.lt_of_succ_lt hltR) f4;have HBx:=hid (A2 HD4.out.b hs6);exact A8p
    ·have CV:Hid (∀wk,Calls prog 39 #[.agg #[.int .i64 o,.int .i64 d,.int .i64 s,.int .i64 z2,.int .i64 i]] wk fun e w'=>e= .returned (.int .i64 0)∧Below wk.heap.size wk w'):=fun wk=>by
      have:=Q5 ⟨o,d,s,z2,i⟩ wk;rw[show vaI ⟨o,d,s,z2,i⟩=0 by unfold vaI;rw[hok];rfl]at this;exact this
     have CB:Hid (∀wk,Calls prog 40 #[.agg #[.int .i64 o,.int .i64 d,.int .i64 s,.int .i64 z2,.int .i64 i]] wk fun e w'=>∃v,e= .returned v∧RowI w' wk.heap.size 5 .u8 v (H7 ⟨o,d,s,z2,i⟩)∧Below wk.heap.size wk w'):=fun wk=>s9 ⟨o,d,s,z2,i⟩ wk hok
     have HLB:Hid ((H7 ⟨o,d,s,z2,i⟩).length≤140737488351232):=by show _≤_;have:=(A2k hok).2;omega
     have HTK:Hid (∀wk,Since W4 wk→Ints .u8 wk (.slice va N vc) (l.take N)):=fun wk h=>(HD4.out.r.l.stays h).take hle
     have HDN2:Hid (S5 l=if H7 ⟨o,d,s,z2,i⟩=l.take N then some (⟨o,d,s,z2,i⟩,N)else none):=by
      show _=_
      rw[HDN.out];by_cases hq:H7 ⟨o,d,s,z2,i⟩=l.take N
      ·rw[if_pos ⟨⟨hle,hok⟩,hq⟩,if_pos hq]
      ·rw[if_neg (fun h=>hq h.2),if_neg hq]
     clear hok HDN;generalize H7 ⟨o,d,s,z2,i⟩=en at*
     have CE:Hid (∀wk v,Since W4 wk→Ints .u8 wk v en→Calls prog 43 #[v,.slice va N vc] wk fun e w'=>e= .returned (.bool (decide (en=l.take N)))∧Dr wk w'):=fun wk v h hi=>A3V en (l.take N) v _ wk hi (HTK.out wk h)
     obtain⟨q,hq⟩:∃q,decide (en=l.take N)=q:=⟨_,rfl⟩
     rw[hq]at CE;have HQ:=hid hq;clear hq;refine wp_region_held_drew (S:=(fun wk=>Since W4 wk)) (by kernel_rfl) ?_ (fun hHeld=>?_)
     ·exact A1b
     refine tk 0 ?_;refine tk 1 ?_;refine tk 2 ?_;refine tk 3 ?_;refine tk 4 ?_;refine tk 5 ?_;refine rd1 6 (fun K hK=>?_)
     (go_simp;first|((with_reducible refine(CV.out _).mono ?_);rintro e w6 ⟨rfl,hb6⟩;have hs6:=Since.next (by assumption) hb6)|((with_reducible refine(CB.out _).mono ?_);rintro e w7 ⟨v7,rfl,hr7,hb7⟩;have HR7:=hid hr7;have hs7:=Since.next (by assumption) hb7;clear hr7)|((with_reducible refine(CE.out _ _ kp (HR7.out.ints HLB.out)).mono ?_);rintro e w8 ⟨rfl,hd8⟩;have hs8:=Since.dr (by assumption) hd8))
     refine hK.out _ _ ?_ (fun hHeld=>?_)
     ·exact A1b
     clear hK K
     try go_frame
     refine tk 7 ?_;refine tk 8 ?_;refine tk 9 ?_;refine tk 10 ?_;refine tk 12 ?_;refine tk 13 ?_;refine tk 14 ?_;refine tk 15 ?_;refine tk 16 ?_;refine tk 17 ?_;refine rd1 11 (fun K hK=>?_)
     (go_simp;first|((with_reducible refine(CV.out _).mono ?_);rintro e w6 ⟨rfl,hb6⟩;have hs6:=Since.next (by assumption) hb6)|((with_reducible refine(CB.out _).mono ?_);rintro e w7 ⟨v7,rfl,hr7,hb7⟩;have HR7:=hid hr7;have hs7:=Since.next (by assumption) hb7;clear hr7)|((with_reducible refine(CE.out _ _ kp (HR7.out.ints HLB.out)).mono ?_);rintro e w8 ⟨rfl,hd8⟩;have hs8:=Since.dr (by assumption) hd8))
     refine hK.out _ _ ?_ (fun hHeld=>?_)
     ·exact A1b
     clear hK K
     try go_frame
     refine rd1 18 (fun K hK=>?_)
     (go_simp;first|((with_reducible refine(CV.out _).mono ?_);rintro e w6 ⟨rfl,hb6⟩;have hs6:=Since.next (by assumption) hb6)|((with_reducible refine(CB.out _).mono ?_);rintro e w7 ⟨v7,rfl,hr7,hb7⟩;have HR7:=hid hr7;have hs7:=Since.next (by assumption) hb7;clear hr7)|((with_reducible refine(CE.out _ _ kp (HR7.out.ints HLB.out)).mono ?_);rintro e w8 ⟨rfl,hd8⟩;have hs8:=Since.dr (by assumption) hd8))
     refine hK.out _ _ ?_ (fun hHeld=>?_)
     ·exact A1b
     clear hK K
     try go_frame
     refine tk 19 ?_;refine tk 20 ?_;refine wpAnyH_done (by kernel_rfl) ?_ _;cases q
     ·have HN0:=hid (S9 (l:=l) (by rw[HDN2.out,if_neg (of_decide_eq_false HQ.out)]));have q0b:=Since.cell hs8 q0;have q1b:=Since.cell hs8 q1;have q2b:=Since.cell hs8 q2;have q3b:=Since.cell hs8 q3;have q4b:=Since.cell hs8 q4;have f0b:=Since.free hs8 (Nat.lt_of_succ_lt hltR) f0;have f1b:=Since.free hs8 (Nat.lt_of_succ_lt hltR) f1;have f2b:=Since.free hs8 (Nat.lt_of_succ_lt hltR) f2;have f3b:=Since.free hs8 (Nat.lt_of_succ_lt hltR) f3;have f4b:=Since.free hs8 (Nat.lt_of_succ_lt hltR) f4;have HBx:=hid (A2 HD4.out.b hs8);exact A8p
     ·have HN1:=hid (S8 (l:=l) (x:=⟨o,d,s,z2,i⟩) (n:=N) (by rw[HDN2.out,if_pos (of_decide_eq_true HQ.out)]));have q0b:=Since.cell hs8 q0;have q1b:=Since.cell hs8 q1;have q2b:=Since.cell hs8 q2;have q3b:=Since.cell hs8 q3;have q4b:=Since.cell hs8 q4;have f0b:=Since.free hs8 (Nat.lt_of_succ_lt hltR) f0;have f1b:=Since.free hs8 (Nat.lt_of_succ_lt hltR) f1;have f2b:=Since.free hs8 (Nat.lt_of_succ_lt hltR) f2;have f3b:=Since.free hs8 (Nat.lt_of_succ_lt hltR) f3;have f4b:=Since.free hs8 (Nat.lt_of_succ_lt hltR) f4;have HBx:=hid (A2 HD4.out.b hs8);have x0b:=x0s _ hs8;have x1b:=x1s _ hs8;have x2b:=x2s _ hs8;have x3b:=x3s _ hs8;have x4b:=x4s _ hs8;have rb:=hr1s _ hs8;go_wp2_with go_region
      refine bodyPost_ret (v:=.tuple #[D5 ⟨o,d,s,z2,i⟩,.int .i64 N,.bool true]) (by simp[results,results24,go_sem,D5,q0b,q1b,q2b,q3b,q4b]) rfl ⟨?_,?_⟩
      ·rw[HN1.out.1,HN1.out.2.1,HN1.out.2.2]
      ·(try with_reducible refine Below.drew ?_);exact B6 HBx.out (Nat.le_refl _) _ _ _ _ _
theorem Ints.str{w:World}{v:Value}{xs:List Int}(h:Ints .u8 w v xs):(convert 24 9 v).run prog w= .ok (.string (strOfNums xs)) w:=by
 obtain⟨a,c,rfl,h1,h2,h3,h4⟩:=h;rcases a with _|⟨b,o,tg⟩
 ·have hl:xs=[]:=by
   rcases xs with _|⟨x,r⟩
   ·rfl
   ·obtain⟨b,o,e,_⟩:=h4 0 (by simp);cases e
  subst hl;exact run_convert_bytes_nil w _ 5 underlying24 underlying5 _ _ _ underlying9
 ·rcases Nat.eq_zero_or_pos xs.length with h0|h0
  ·have hl:xs=[]:=List.length_eq_zero_iff.1 h0;subst hl;rw[run_convert_bytes_string w _ _ 5 _ _ _ underlying24 underlying5 underlying9];have:=run_bytesToString (P:=prog) w ⟨b,o,tg⟩ 0 c [] (by have:=run_loadCells_list (P:=prog) w ⟨b,o,tg⟩ [] (by intro j v hj;simp at hj);simpa using this);exact this
  ·obtain⟨b',o',e,_⟩:=h4 0 h0;cases e;refine run_convert_bytes_arg w _ 5 underlying24 underlying5 b o xs.length c xs rfl (fun i hi=>?_) _ underlying9;obtain⟨b2,o2,e2,_,h6⟩:=h4 i hi;cases e2;rw[Nat.mul_one]at h6;exact h6
theorem B2y:strOfNums [131,192,255]=⟨#[131,192,255]⟩:=by decide
theorem B2x:strOfNums [102,131,192,255]=⟨#[102,131,192,255]⟩:=by decide
theorem T7(w:World):Calls prog 6 #[] w fun e w'=>e= .returned (.bool true)∧Below w.heap.size w w':=by
 have E1:Hid (∀wk,Calls prog 22 #[.agg #[.int .i64 14,.int .i64 0,.int .i64 0,.int .i64 32,.int .i64 4294967295]] wk fun e w'=>∃v,e= .returned (.tuple #[v,.int .i64 0])∧RowI w' wk.heap.size 5 .u8 v [131,192,255]∧Below wk.heap.size wk w'):=fun wk=>r9 ⟨14,0,0,32,4294967295⟩ wk (by decide)
 have E2:Hid (∀wk,Calls prog 22 #[.agg #[.int .i64 14,.int .i64 0,.int .i64 0,.int .i64 16,.int .i64 65535]] wk fun e w'=>∃v,e= .returned (.tuple #[v,.int .i64 0])∧RowI w' wk.heap.size 5 .u8 v [102,131,192,255]∧Below wk.heap.size wk w'):=fun wk=>r9 ⟨14,0,0,16,65535⟩ wk (by decide)
 have hd:S5 [139,131,16,0,0,0]=some (⟨2,0,3,32,16⟩,6):=by decide
 have D1:Hid (∀wk:World,Calls prog 24 #[.slice (some ⟨wk.heap.size,0,none⟩) 6 6] (wk.alloc (.cells #[.int .u8 139,.int .u8 131,.int .u8 16,.int .u8 0,.int .u8 0,.int .u8 0] 5)) fun e w'=>e= .returned (.tuple #[.agg #[.int .i64 2,.int .i64 0,.int .i64 3,.int .i64 32,.int .i64 16],.int .i64 6,.bool true])∧Since (wk.alloc (.cells #[.int .u8 139,.int .u8 131,.int .u8 16,.int .u8 0,.int .u8 0,.int .u8 0] 5)) w'):=fun wk=>by
  have h:=l7 [139,131,16,0,0,0] (.slice (some ⟨wk.heap.size,0,none⟩) 6 6) _ ((RowI.lit wk #[.int .u8 139,.int .u8 131,.int .u8 16,.int .u8 0,.int .u8 0,.int .u8 0] [139,131,16,0,0,0] .u8 5 wk.heap.size 6 (Nat.le_refl _) rfl rfl (by unfold maxLen;simp)).ints (by simp)) (by
   intro i;rcases i with _|_|_|_|_|_|i<;>simp)
  rw[(S8 hd).1,(S8 hd).2.1,(S8 hd).2.2]at h;exact h
 clear hd;go_enter func6,ntmps6;go_upto_region 4 with(first|((with_reducible refine(E1.out _).mono ?_);rintro e w1 ⟨v1,rfl,hr1,hb1⟩;obtain⟨a1,c1,rfl⟩:=hr1.shape;have HR1:=hid hr1;have HB1:=hid hb1;clear hr1 hb1)|((with_reducible refine(E2.out _).mono ?_);rintro e w2 ⟨v2,rfl,hr2,hb2⟩;obtain⟨a2,c2,rfl⟩:=hr2.shape;have HR2:=hid hr2;have HB2:=hid hb2;clear hr2 hb2)|((with_reducible refine(D1.out _).mono ?_);rintro e w3 ⟨rfl,hs3⟩))
 obtain⟨W4,hW4⟩:∃W,w3.alloc (.cells #[.int .i64 2,.int .i64 0,.int .i64 3,.int .i64 32,.int .i64 16] 61)=W:=⟨_,rfl⟩
 have hb4:Below w3.heap.size w3 W4:=by rw[←hW4];exact(Below.refl _ _).alloc (Nat.le_refl _) _
 have hx4:Box5 W4 w3.heap.size 2 0 3 32 16:=by rw[←hW4];exact Box5.new w3 2 0 3 32 16
 obtain⟨⟨q0,q1,q2,q3,q4⟩,_⟩:=hx4.cells;have s23:Below w2.heap.size w2 w3:=A2 ((Below.refl _ _).alloc (Nat.le_refl _) _) hs3;have s24:Below w2.heap.size w2 W4:=A2 s23 hb4;have s14:Below w1.heap.size w1 W4:=A2 HB2.out s24;have HF:=hid (A2 HB1.out s14);have t1:=((HR1.out.below s14).ints (by simp)).str;have t2:=((HR2.out.below s24).ints (by simp)).str;rw[B2y]at t1;rw[B2x]at t2;change(convert 24 9 (.slice a1 3 c1)).run prog W4=_ at t1;change(convert 24 9 (.slice a2 4 c2)).run prog W4=_ at t2;rw[hW4];clear hW4 hb4 s23 s24 s14 hs3 hx4;go_wp2_with fail
 go_ret;exact⟨rfl,HF.out⟩
end Go.Proofs.YtdojafpjipcbjaaGreat
namespace Go.Proofs.YtdojafpjipcbjaaGreat
open Go.RowKit Go.Maps
set_option linter.unusedVariables false
set_option linter.unusedSimpArgs false
theorem A9h{l:List Int}(h:∀b∈l,0≤b∧b<256):Byt l:=fun k=>by
 rcases Nat.lt_or_ge k l.length with hk|hk
 ·rw[List.getD_eq_getElem?_getD,List.getElem?_eq_getElem hk];exact h _ (List.getElem_mem hk)
 ·rw[List.getD_eq_getElem?_getD,List.getElem?_eq_none hk];decide
/-! ### memory -/
def B2s(w:World)(b o:Nat)(x:Ins):Prop:=
 w.cell? ⟨b,o,none⟩=some (.int .i64 x.o)∧w.cell? ⟨b,o+1,none⟩=some (.int .i64 x.d)∧w.cell? ⟨b,o+2,none⟩=some (.int .i64 x.s)∧w.cell? ⟨b,o+3,none⟩=some (.int .i64 x.z)∧w.cell? ⟨b,o+4,none⟩=some (.int .i64 x.i)
def Ias(w:World)(v:Value)(xs:List Ins):Prop:=Slc w v xs.length 5 fun i b o=>B2s w b o (xs.getD i default)
theorem Ias.stays{w w':World}{v:Value}{xs:List Ins}(h:Ias w v xs)(hb:Below w.heap.size w w'):Ias w' v xs:=
 Slc.stays h hb fun _ _ _ hlt hc=>⟨H4 hb hlt hc.1,H4 hb hlt hc.2.1,H4 hb hlt hc.2.2.1,H4 hb hlt hc.2.2.2.1,H4 hb hlt hc.2.2.2.2⟩
theorem Ias.shape{w:World}{v:Value}{xs:List Ins}(h:Ias w v xs):∃a c,v= .slice a xs.length c∧xs.length≤c∧xs.length≤140737488351232:=by
 obtain⟨a,c,e,h1,h2,_⟩:=h;exact⟨a,c,e,h1,h2.1⟩
theorem Ias.at{w:World}{v:Value}{xs:List Ins}(h:Ias w v xs){j:Nat}(hj:j<xs.length):∃b q c,v= .slice (some ⟨b,q,none⟩) xs.length c∧xs.length≤c∧b<w.heap.size∧B2s w b (q+j*5) (xs.getD j default):=by
 obtain⟨a,c,e,h1,h2,h3,h4⟩:=h;obtain⟨b,q,rfl,h5,h6⟩:=h4 j hj;exact⟨b,q,c,e,h1,h5,h6⟩
def iaC(x:Ins):List Value:=[.int .i64 x.o,.int .i64 x.d,.int .i64 x.s,.int .i64 x.z,.int .i64 x.i]
def A1k:List Ins→List Value
 |[]=>[]
 |x::r=>iaC x++A1k r
theorem A3L(xs:List Ins)(x:Ins):A1k (xs++[x])=A1k xs++iaC x:=by
 induction xs with
 |nil=>simp[A1k]
 |cons y r ih=>simp only[List.cons_append,A1k,ih,List.append_assoc]
def RowA(w:World)(base:Nat)(v:Value)(xs:List Ins):Prop:=w.ownsRow base 61 5 v xs.length (A1k xs)
theorem RowA.nil(w:World)(base:Nat):RowA w base (.slice none 0 0) []:=World.ownsRow_nil w base _ 5
theorem RowA.below{w w':World}{base:Nat}{v:Value}{xs:List Ins}(h:RowA w base v xs)(hb:Below w.heap.size w w'):RowA w' base v xs:=by
 obtain⟨h0,⟨e,h1⟩|⟨g,cap,cur,e,hb',hg,h1,h2,h3,h4⟩⟩:=h
 ·exact⟨h0,Or.inl ⟨e,h1⟩⟩
 ·have hlt:g<w.heap.size:=by
   rcases Nat.lt_or_ge g w.heap.size with h|h
   ·exact h
   ·rw[Array.getElem?_eq_none h]at hg;cases hg
  exact⟨h0,Or.inr ⟨g,cap,cur,e,hb',by rw[hb.block g hlt];exact hg,h1,h2,h3,h4⟩⟩
theorem RowA.shape{w:World}{base:Nat}{v:Value}{xs:List Ins}(h:RowA w base v xs):∃a c,v= .slice a xs.length c:=by
 obtain⟨h0,⟨e,h1⟩|⟨g,cap,cur,e,_⟩⟩:=h
 ·exact⟨none,0,by rw[e,h1]⟩
 ·exact⟨_,_,e⟩
end Go.Proofs.YtdojafpjipcbjaaGreat
