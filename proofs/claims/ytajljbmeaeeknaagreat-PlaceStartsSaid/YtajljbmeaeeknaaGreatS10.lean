/- -/
import Derived.Deep.CutRange
import Derived.Test.YtajljbmeaeeknaaGreatS4
import Derived.Test.YtajljbmeaeeknaaGreatS9
open Go.Proofs.Tryz
open Go.Lib (hid)
set_option maxRecDepth 100000
namespace Go.Proofs.YtajljbmeaeeknaaGreat
open Go.RowKit
set_option linter.unusedVariables false
set_option linter.unusedSimpArgs false
section
variable {P : Program} {l : List Oper} {Q : Exit → Act → World → Prop} {md : Region.Mode} {S : World → Prop}
theorem s9(i:Nat){oi:Oper}{v:Value}{fuel:Nat}{listed:Array Bool}{a:Act}{w:World}(hi:(l.drop i).head? =some oi)
  (hs:Region.noSelect l.toArray=true) (hf:Region.free md l.toArray listed i=true) (hr:(Region.ready md l.toArray listed).contains i=true)
  (hQ:∀c a w,Q (.panic c) (a.put oi.dst v) w→Q (.panic c) a w) (hy:YieldsIf P l.toArray S oi v a) (hS:S w)
  (h:wpAnyH P md l.toArray Q S fuel (listed.setIfInBounds i true) (a.put oi.dst v) w):wpAnyH P md l.toArray Q S (fuel+1) listed a w:=
 wpAnyH_take (i:=i) (by rw[←hi,List.head?_drop];simp) hs hf hr hQ hy hS h
theorem c8(i:Nat){fuel:Nat}{listed:Array Bool}{a:Act}{w:World}{o:Oper}{rs:List Nat}(ho:(l.drop i).head? =some o)
  (h:∀K':Act→World→Prop,Shut (∀a w,S w→(S w→wpAnyH P md l.toArray Q S fuel (listed.setIfInBounds i true) a w)→K' a w)→if Region.wanted o (yielded l.toArray a.tmps)=true then Oper.wp P o a w K' Q else K' (a.put o.dst undef) w)
  (hs:AllReadyH P md l.toArray Q S fuel listed a w rs):AllReadyH P md l.toArray Q S fuel listed a w (i::rs):=
 AllReadyH.cons (by rw[←ho,List.head?_drop];simp) h hs
end
def MRet(x:Ins)(w:World)(e:Ending)(w':World):Prop:=∃v ok,e= .returned (.tuple #[v,.bool ok])∧ok=okI x∧(okI x=true→RowI w' w.heap.size 5 .u8 v (G8 x))∧Below w.heap.size w w'
theorem MRet.mk{x:Ins}{w w':World}{v:Value}{ok:Bool}(h1:ok=okI x)(h2:okI x=true→RowI w' w.heap.size 5 .u8 v (G8 x))(h3:Below w.heap.size w w'):MRet x w (.returned (.tuple #[v,.bool ok])) w':=⟨v,ok,rfl,h1,h2,h3⟩
section
variable {w : World}
theorem m7{ops:Array Oper}{rest:List Oper}{o:Oper}{a:Act}{Q:Exit→Act→World→Prop}(hgd:o.guard=none)(s x:Operand)
  (ho:o.op= .call {callee:=.builtin .append,args:=#[s,x],argTypes:=#[28,28]}) (base:Nat) (v:Value) (xs:List Int) (hs:a.eval s=v) (hown:RowI w base 5 .u8 v xs)
  (u:Value) (ys:List Int) (hx:a.eval x=u) (hu:Ints .u8 w u ys) (hm:0<ys.length) (hl:xs.length+ys.length≤100000) (hbase:base≤w.heap.size)
  (h:∀v' w',RowI w' base 5 .u8 v' (xs++ys)→Below base w w'→wpList prog ops Q rest (a.put o.dst v') w'):wpList prog ops Q (o::rest) a w:=by
 obtain⟨i0,hi0,hz0,hz1,hz2⟩:=info_parts F8;exact L0 hgd s x _ ho base _ i0 1 underlying28 hi0 hz0 hz1 hz2 (by decide) v xs hs hown u ys hx hu hm hl hbase h
end
end Go.Proofs.YtajljbmeaeeknaaGreat
namespace Go.Proofs.YtajljbmeaeeknaaGreat
open Go.RowKit
set_option linter.unusedVariables false
set_option linter.unusedSimpArgs false
section
variable {P : Program} {l : List Oper} {Q : Exit → Act → World → Prop} {md : Region.Mode} {S : World → Prop}
theorem tk(i:Nat){oi:Oper}{v:Value}{fuel:Nat}{listed:Array Bool}{a a':Act}{w:World}
  (h:wpAnyH P md l.toArray Q S fuel (listed.setIfInBounds i true) a' w)
  (hi:(l.drop i).head? =some oi:=by rfl)
  (hs:Region.noSelect l.toArray=true:=by kernel_rfl) (hf:Region.free md l.toArray listed i=true:=by kernel_rfl) (hr:(Region.ready md l.toArray listed).contains i=true:=by kernel_rfl)
  (hw:Region.wanted oi (yielded l.toArray a.tmps)=true:=by rfl)
  (hv:∀w,S w→(execOp a.eval oi).run P w= .ok (.value v) w:=by(intro w hSw;(try dsimp only at hSw);go_simp;(try with_reducible rfl)))
  (hQ:∀c a w,Q (.panic c) (a.put oi.dst v) w→Q (.panic c) a w:=by exact fun _ _ _ h=>h)
  (hS:S w:=by assumption)
  (ha:a.put oi.dst v=a':=by first|(go_frame;done)|(go_frame;rfl)|rfl):wpAnyH P md l.toArray Q S (fuel+1) listed a w:=by
 subst ha;exact s9 i hi hs hf hr hQ (Or.inl ⟨hw,hv⟩) hS h
theorem rd1(i:Nat){oi:Oper}{fuel:Nat}{listed:Array Bool}{a:Act}{w:World}
  (h:∀K':Act→World→Prop,Shut (∀a w,S w→(S w→wpAnyH P md l.toArray Q S fuel (listed.setIfInBounds i true) a w)→K' a w)→if Region.wanted oi (yielded l.toArray a.tmps)=true then Oper.wp P oi a w K' Q else K' (a.put oi.dst undef) w)
  (hi:(l.drop i).head? =some oi:=by rfl) (hr:Region.ready md l.toArray listed=[i]:=by kernel_rfl):wpAnyH P md l.toArray Q S (fuel+1) listed a w:=
 wpAnyH_ready hr (by simp) (c8 i hi h AllReadyH.nil)
end
section
variable {W0 w : World}
end
end Go.Proofs.YtajljbmeaeeknaaGreat
namespace Go.Proofs.YtajljbmeaeeknaaGreat
open Go.RowKit Go.Maps
set_option linter.unusedVariables false
set_option linter.unusedSimpArgs false
theorem A5s{p:Prop}(h:p:=by
 go_enter func268,ntmps268;go_upto_region 1 with fail
 go_region_held3(fun wk=>Since W1 wk) (first|assumption|exact Since.drew (by assumption)|exact Since.next (by assumption) (by assumption)) ((go_at_call 273;(first|(with_reducible refine(C1.out _).mono ?_;rintro e wa ⟨rfl,hba⟩)|(with_reducible refine(C2.out _).mono ?_;rintro e wb ⟨rfl,hbb⟩)|(with_reducible refine(C3.out _).mono ?_;rintro e wc ⟨rfl,hbc⟩))))
 have hSz:Since W1 wc:=by assumption
 have y0:=K0.out _ hSz;have HZ:=hid hSz;clear hba hbb hbc C1 C2 C3 X0 X1 X2 X3 X4 X5;go_wp2_with(go_at_call 272;with_reducible refine(CB.out _ HZ.out).mono ?_;rintro e w9 ⟨u,rfl,hu,h9⟩)
 go_ret;exact⟨u,rfl,hu,A8 BB.out (A8 HZ.out h9)⟩
 ):p:=h
theorem U1{p:Prop}(h:p:=by
 (first|assumption|exact Since.drew (by assumption)|exact Since.next (by assumption) (by assumption))
 ):p:=h
theorem A7I{p:Prop}(h:p:=by
 (first|assumption|exact Since.drew (by assumption)|exact Since.next (by assumption) ((Below.refl _ _).alloc (Nat.le_refl _) _)|exact Since.next (Since.drew hS0) h9|exact Since.next (by assumption) (by assumption))
 ):p:=h
def op0L:List Int:=[0,1,10,12,14,11,13,9,8,5,2,6,7,3,4]
def pl0(x:Cd):List Rv:=
 if x.o=0 then nb0 (rg0 x.d) x.i else if x.o=1 then[⟨15,rg0 x.d,rg0 x.a,0,0⟩]
 else if x.o=17 then[⟨5,31,rg0 x.a,rg0 x.b,0⟩,⟨17,rg0 x.d,31,0,1⟩]
 else if 2≤x.o∧x.o≤16 then[⟨op0L.getD (x.o-2).toNat 0,rg0 x.d,rg0 x.a,rg0 x.b,0⟩]
 else if 18≤x.o∧x.o≤20 then bs0 x++[⟨x.o+7,rg0 x.d,bf0 x,0,loR x.i⟩]
 else if 21≤x.o∧x.o≤23 then bs0 x++[⟨x.o+7,0,bf0 x,rg0 x.b,loR x.i⟩]
 else if x.o=26 then[⟨40,0,0,0,0⟩]else[⟨39,0,0,0,0⟩]
set_option maxHeartbeats 2000000 in
theorem A4g(x:Cd)(h0:0≤x.i)(h1:x.i<4294967296)(hd:x.d≤1000)(ha:x.a≤1000)(hb:x.b≤1000)(HO:x.o=1)(hall:Q4 ([⟨15,rg0 x.d,rg0 x.a,0,0⟩]))(w:World):Calls prog 268 #[.agg #[],ncV x] w fun e w'=>∃u,e= .returned u∧RowI w' w.heap.size 5 .u8 u (H0 ([⟨15,rg0 x.d,rg0 x.a,0,0⟩]))∧Below w.heap.size w w':=by
 obtain⟨o,d,a,b,i,t⟩:=x;show Calls prog 268 #[.agg #[],.agg #[.int .i64 o,.int .i64 d,.int .i64 a,.int .i64 b,.int .u32 i,.int .i64 t]] w _
 simp only at h0 h1 hd ha hb HO;obtain⟨hb1,k1⟩:=B9 (w.alloc (.cells #[] 188)) [.int .i64 o,.int .i64 d,.int .i64 a,.int .i64 b,.int .u32 i,.int .i64 t] 61;have hb0:Below w.heap.size w (w.alloc (.cells #[] 188)):=(Below.refl _ _).alloc (Nat.le_refl _) _;obtain⟨W1,hW1⟩:∃W,(w.alloc (.cells #[] 188)).alloc (.cells #[.int .i64 o,.int .i64 d,.int .i64 a,.int .i64 b,.int .u32 i,.int .i64 t] 61)=W:=⟨_,rfl⟩
 rw[show([.int .i64 o,.int .i64 d,.int .i64 a,.int .i64 b,.int .u32 i,.int .i64 t]:List Value).toArray=#[.int .i64 o,.int .i64 d,.int .i64 a,.int .i64 b,.int .u32 i,.int .i64 t]from rfl,hW1]at hb1 k1;rw[show(w.alloc (.cells #[] 188)).heap.size=w.heap.size+1 by simp]at k1;have BB:Hid (Since w W1):=hid (A8 hb0 hb1);have x0:=(k1 0 _ rfl).1;have hs:w.heap.size+1<W1.heap.size:=B6 x0;have X0:∀wk,Since W1 wk→wk.cell? ⟨w.heap.size+1,0,none⟩=some (.int .i64 o):=fun wk h=>A7 h hs (k1 0 _ rfl).1
 have X1:∀wk,Since W1 wk→wk.cell? ⟨w.heap.size+1,1,none⟩=some (.int .i64 d):=fun wk h=>A7 h hs (k1 1 _ rfl).1
 have X2:∀wk,Since W1 wk→wk.cell? ⟨w.heap.size+1,2,none⟩=some (.int .i64 a):=fun wk h=>A7 h hs (k1 2 _ rfl).1
 have X3:∀wk,Since W1 wk→wk.cell? ⟨w.heap.size+1,3,none⟩=some (.int .i64 b):=fun wk h=>A7 h hs (k1 3 _ rfl).1
 have X4:∀wk,Since W1 wk→wk.cell? ⟨w.heap.size+1,4,none⟩=some (.int .u32 i):=fun wk h=>A7 h hs (k1 4 _ rfl).1
 have X5:∀wk,Since W1 wk→wk.cell? ⟨w.heap.size+1,5,none⟩=some (.int .i64 t):=fun wk h=>A7 h hs (k1 5 _ rfl).1
 have K0:=hid X0;have K1:=hid X1;have K2:=hid X2;have K3:=hid X3;have K4:=hid X4;have K5:=hid X5;have C1:=hid (E0 d hd);have C2:=hid (E0 a ha);have C3:=hid (E0 b hb);have h00:=Since.refl W1;subst HO;generalize rg0 d=rd at*
 generalize rg0 a=ra at*
 generalize rg0 b=rb at*
 have CB:Hid (∀wk,Since W1 wk→Calls prog 272 #[.agg #[],.slice (some ⟨wk.heap.size,0,none⟩) 1 1] (wk.alloc (.cells #[.int .i64 15,.int .i64 rd,.int .i64 ra,.int .i64 0,.int .i64 0] 75)) fun e w'=>∃u,e= .returned u∧RowI w' w.heap.size 5 .u8 u (H0 [⟨15,rd,ra,0,0⟩])∧Below wk.heap.size wk w'):=hid (fun wk h=>(I5 [⟨15,rd,ra,0,0⟩] _ _ (L5 (w:=wk) (xs:=[⟨15,rd,ra,0,0⟩]) (by simp)) hall (by simp)).mono fun e w' ⟨u,h1,h2,h3⟩=>⟨u,h1,World.ownsRow.mono h2 (by have:=h.size;simp;omega),A8 ((Below.refl _ _).alloc (Nat.le_refl _) _) h3⟩);clear k1 x0 hb0 hb1;exact A5s
set_option maxHeartbeats 2000000 in
theorem A3V(x:Cd)(h0:0≤x.i)(h1:x.i<4294967296)(hd:x.d≤1000)(ha:x.a≤1000)(hb:x.b≤1000)(HO:x.o=17)(hall:Q4 ([⟨5,31,rg0 x.a,rg0 x.b,0⟩,⟨17,rg0 x.d,31,0,1⟩]))(w:World):Calls prog 268 #[.agg #[],ncV x] w fun e w'=>∃u,e= .returned u∧RowI w' w.heap.size 5 .u8 u (H0 ([⟨5,31,rg0 x.a,rg0 x.b,0⟩,⟨17,rg0 x.d,31,0,1⟩]))∧Below w.heap.size w w':=by
 obtain⟨o,d,a,b,i,t⟩:=x;show Calls prog 268 #[.agg #[],.agg #[.int .i64 o,.int .i64 d,.int .i64 a,.int .i64 b,.int .u32 i,.int .i64 t]] w _
 simp only at h0 h1 hd ha hb HO;obtain⟨hb1,k1⟩:=B9 (w.alloc (.cells #[] 188)) [.int .i64 o,.int .i64 d,.int .i64 a,.int .i64 b,.int .u32 i,.int .i64 t] 61;have hb0:Below w.heap.size w (w.alloc (.cells #[] 188)):=(Below.refl _ _).alloc (Nat.le_refl _) _;obtain⟨W1,hW1⟩:∃W,(w.alloc (.cells #[] 188)).alloc (.cells #[.int .i64 o,.int .i64 d,.int .i64 a,.int .i64 b,.int .u32 i,.int .i64 t] 61)=W:=⟨_,rfl⟩
 rw[show([.int .i64 o,.int .i64 d,.int .i64 a,.int .i64 b,.int .u32 i,.int .i64 t]:List Value).toArray=#[.int .i64 o,.int .i64 d,.int .i64 a,.int .i64 b,.int .u32 i,.int .i64 t]from rfl,hW1]at hb1 k1;rw[show(w.alloc (.cells #[] 188)).heap.size=w.heap.size+1 by simp]at k1;have BB:Hid (Since w W1):=hid (A8 hb0 hb1);have x0:=(k1 0 _ rfl).1;have hs:w.heap.size+1<W1.heap.size:=B6 x0;have X0:∀wk,Since W1 wk→wk.cell? ⟨w.heap.size+1,0,none⟩=some (.int .i64 o):=fun wk h=>A7 h hs (k1 0 _ rfl).1
 have X1:∀wk,Since W1 wk→wk.cell? ⟨w.heap.size+1,1,none⟩=some (.int .i64 d):=fun wk h=>A7 h hs (k1 1 _ rfl).1
 have X2:∀wk,Since W1 wk→wk.cell? ⟨w.heap.size+1,2,none⟩=some (.int .i64 a):=fun wk h=>A7 h hs (k1 2 _ rfl).1
 have X3:∀wk,Since W1 wk→wk.cell? ⟨w.heap.size+1,3,none⟩=some (.int .i64 b):=fun wk h=>A7 h hs (k1 3 _ rfl).1
 have X4:∀wk,Since W1 wk→wk.cell? ⟨w.heap.size+1,4,none⟩=some (.int .u32 i):=fun wk h=>A7 h hs (k1 4 _ rfl).1
 have X5:∀wk,Since W1 wk→wk.cell? ⟨w.heap.size+1,5,none⟩=some (.int .i64 t):=fun wk h=>A7 h hs (k1 5 _ rfl).1
 have K0:=hid X0;have K1:=hid X1;have K2:=hid X2;have K3:=hid X3;have K4:=hid X4;have K5:=hid X5;have C1:=hid (E0 d hd);have C2:=hid (E0 a ha);have C3:=hid (E0 b hb);have h00:=Since.refl W1;subst HO;generalize rg0 d=rd at*
 generalize rg0 a=ra at*
 generalize rg0 b=rb at*
 have CB:Hid (∀wk,Since W1 wk→Calls prog 272 #[.agg #[],.slice (some ⟨wk.heap.size,0,none⟩) 2 2] (wk.alloc (.cells #[.int .i64 5,.int .i64 31,.int .i64 ra,.int .i64 rb,.int .i64 0,.int .i64 17,.int .i64 rd,.int .i64 31,.int .i64 0,.int .i64 1] 75)) fun e w'=>∃u,e= .returned u∧RowI w' w.heap.size 5 .u8 u (H0 [⟨5,31,ra,rb,0⟩,⟨17,rd,31,0,1⟩])∧Below wk.heap.size wk w'):=hid (fun wk h=>(I5 [⟨5,31,ra,rb,0⟩,⟨17,rd,31,0,1⟩] _ _ (L5 (w:=wk) (xs:=[⟨5,31,ra,rb,0⟩,⟨17,rd,31,0,1⟩]) (by simp)) hall (by simp)).mono fun e w' ⟨u,h1,h2,h3⟩=>⟨u,h1,World.ownsRow.mono h2 (by have:=h.size;simp;omega),A8 ((Below.refl _ _).alloc (Nat.le_refl _) _) h3⟩);clear k1 x0 hb0 hb1;exact A5s
set_option maxHeartbeats 2000000 in
theorem A3S(x:Cd)(h0:0≤x.i)(h1:x.i<4294967296)(hd:x.d≤1000)(ha:x.a≤1000)(hb:x.b≤1000)(HO:x.o=26)(hall:Q4 ([⟨40,0,0,0,0⟩]))(w:World):Calls prog 268 #[.agg #[],ncV x] w fun e w'=>∃u,e= .returned u∧RowI w' w.heap.size 5 .u8 u (H0 ([⟨40,0,0,0,0⟩]))∧Below w.heap.size w w':=by
 obtain⟨o,d,a,b,i,t⟩:=x;show Calls prog 268 #[.agg #[],.agg #[.int .i64 o,.int .i64 d,.int .i64 a,.int .i64 b,.int .u32 i,.int .i64 t]] w _
 simp only at h0 h1 hd ha hb HO;obtain⟨hb1,k1⟩:=B9 (w.alloc (.cells #[] 188)) [.int .i64 o,.int .i64 d,.int .i64 a,.int .i64 b,.int .u32 i,.int .i64 t] 61;have hb0:Below w.heap.size w (w.alloc (.cells #[] 188)):=(Below.refl _ _).alloc (Nat.le_refl _) _;obtain⟨W1,hW1⟩:∃W,(w.alloc (.cells #[] 188)).alloc (.cells #[.int .i64 o,.int .i64 d,.int .i64 a,.int .i64 b,.int .u32 i,.int .i64 t] 61)=W:=⟨_,rfl⟩
 rw[show([.int .i64 o,.int .i64 d,.int .i64 a,.int .i64 b,.int .u32 i,.int .i64 t]:List Value).toArray=#[.int .i64 o,.int .i64 d,.int .i64 a,.int .i64 b,.int .u32 i,.int .i64 t]from rfl,hW1]at hb1 k1;rw[show(w.alloc (.cells #[] 188)).heap.size=w.heap.size+1 by simp]at k1;have BB:Hid (Since w W1):=hid (A8 hb0 hb1);have x0:=(k1 0 _ rfl).1;have hs:w.heap.size+1<W1.heap.size:=B6 x0;have X0:∀wk,Since W1 wk→wk.cell? ⟨w.heap.size+1,0,none⟩=some (.int .i64 o):=fun wk h=>A7 h hs (k1 0 _ rfl).1
 have X1:∀wk,Since W1 wk→wk.cell? ⟨w.heap.size+1,1,none⟩=some (.int .i64 d):=fun wk h=>A7 h hs (k1 1 _ rfl).1
 have X2:∀wk,Since W1 wk→wk.cell? ⟨w.heap.size+1,2,none⟩=some (.int .i64 a):=fun wk h=>A7 h hs (k1 2 _ rfl).1
 have X3:∀wk,Since W1 wk→wk.cell? ⟨w.heap.size+1,3,none⟩=some (.int .i64 b):=fun wk h=>A7 h hs (k1 3 _ rfl).1
 have X4:∀wk,Since W1 wk→wk.cell? ⟨w.heap.size+1,4,none⟩=some (.int .u32 i):=fun wk h=>A7 h hs (k1 4 _ rfl).1
 have X5:∀wk,Since W1 wk→wk.cell? ⟨w.heap.size+1,5,none⟩=some (.int .i64 t):=fun wk h=>A7 h hs (k1 5 _ rfl).1
 have K0:=hid X0;have K1:=hid X1;have K2:=hid X2;have K3:=hid X3;have K4:=hid X4;have K5:=hid X5;have C1:=hid (E0 d hd);have C2:=hid (E0 a ha);have C3:=hid (E0 b hb);have h00:=Since.refl W1;subst HO;generalize rg0 d=rd at*
 generalize rg0 a=ra at*
 generalize rg0 b=rb at*
 have CB:Hid (∀wk,Since W1 wk→Calls prog 272 #[.agg #[],.slice (some ⟨wk.heap.size,0,none⟩) 1 1] (wk.alloc (.cells #[.int .i64 40,.int .i64 0,.int .i64 0,.int .i64 0,.int .i64 0] 75)) fun e w'=>∃u,e= .returned u∧RowI w' w.heap.size 5 .u8 u (H0 [⟨40,0,0,0,0⟩])∧Below wk.heap.size wk w'):=hid (fun wk h=>(I5 [⟨40,0,0,0,0⟩] _ _ (L5 (w:=wk) (xs:=[⟨40,0,0,0,0⟩]) (by simp)) hall (by simp)).mono fun e w' ⟨u,h1,h2,h3⟩=>⟨u,h1,World.ownsRow.mono h2 (by have:=h.size;simp;omega),A8 ((Below.refl _ _).alloc (Nat.le_refl _) _) h3⟩);clear k1 x0 hb0 hb1;exact A5s
set_option maxHeartbeats 2000000 in
theorem A3R(x:Cd)(h0:0≤x.i)(h1:x.i<4294967296)(hd:x.d≤1000)(ha:x.a≤1000)(hb:x.b≤1000)(HO:x.o=27)(hall:Q4 ([⟨39,0,0,0,0⟩]))(w:World):Calls prog 268 #[.agg #[],ncV x] w fun e w'=>∃u,e= .returned u∧RowI w' w.heap.size 5 .u8 u (H0 ([⟨39,0,0,0,0⟩]))∧Below w.heap.size w w':=by
 obtain⟨o,d,a,b,i,t⟩:=x;show Calls prog 268 #[.agg #[],.agg #[.int .i64 o,.int .i64 d,.int .i64 a,.int .i64 b,.int .u32 i,.int .i64 t]] w _
 simp only at h0 h1 hd ha hb HO;obtain⟨hb1,k1⟩:=B9 (w.alloc (.cells #[] 188)) [.int .i64 o,.int .i64 d,.int .i64 a,.int .i64 b,.int .u32 i,.int .i64 t] 61;have hb0:Below w.heap.size w (w.alloc (.cells #[] 188)):=(Below.refl _ _).alloc (Nat.le_refl _) _;obtain⟨W1,hW1⟩:∃W,(w.alloc (.cells #[] 188)).alloc (.cells #[.int .i64 o,.int .i64 d,.int .i64 a,.int .i64 b,.int .u32 i,.int .i64 t] 61)=W:=⟨_,rfl⟩
 rw[show([.int .i64 o,.int .i64 d,.int .i64 a,.int .i64 b,.int .u32 i,.int .i64 t]:List Value).toArray=#[.int .i64 o,.int .i64 d,.int .i64 a,.int .i64 b,.int .u32 i,.int .i64 t]from rfl,hW1]at hb1 k1;rw[show(w.alloc (.cells #[] 188)).heap.size=w.heap.size+1 by simp]at k1;have BB:Hid (Since w W1):=hid (A8 hb0 hb1);have x0:=(k1 0 _ rfl).1;have hs:w.heap.size+1<W1.heap.size:=B6 x0;have X0:∀wk,Since W1 wk→wk.cell? ⟨w.heap.size+1,0,none⟩=some (.int .i64 o):=fun wk h=>A7 h hs (k1 0 _ rfl).1
 have X1:∀wk,Since W1 wk→wk.cell? ⟨w.heap.size+1,1,none⟩=some (.int .i64 d):=fun wk h=>A7 h hs (k1 1 _ rfl).1
 have X2:∀wk,Since W1 wk→wk.cell? ⟨w.heap.size+1,2,none⟩=some (.int .i64 a):=fun wk h=>A7 h hs (k1 2 _ rfl).1
 have X3:∀wk,Since W1 wk→wk.cell? ⟨w.heap.size+1,3,none⟩=some (.int .i64 b):=fun wk h=>A7 h hs (k1 3 _ rfl).1
 have X4:∀wk,Since W1 wk→wk.cell? ⟨w.heap.size+1,4,none⟩=some (.int .u32 i):=fun wk h=>A7 h hs (k1 4 _ rfl).1
 have X5:∀wk,Since W1 wk→wk.cell? ⟨w.heap.size+1,5,none⟩=some (.int .i64 t):=fun wk h=>A7 h hs (k1 5 _ rfl).1
 have K0:=hid X0;have K1:=hid X1;have K2:=hid X2;have K3:=hid X3;have K4:=hid X4;have K5:=hid X5;have C1:=hid (E0 d hd);have C2:=hid (E0 a ha);have C3:=hid (E0 b hb);have h00:=Since.refl W1;subst HO;generalize rg0 d=rd at*
 generalize rg0 a=ra at*
 generalize rg0 b=rb at*
 have CB:Hid (∀wk,Since W1 wk→Calls prog 272 #[.agg #[],.slice (some ⟨wk.heap.size,0,none⟩) 1 1] (wk.alloc (.cells #[.int .i64 39,.int .i64 0,.int .i64 0,.int .i64 0,.int .i64 0] 75)) fun e w'=>∃u,e= .returned u∧RowI w' w.heap.size 5 .u8 u (H0 [⟨39,0,0,0,0⟩])∧Below wk.heap.size wk w'):=hid (fun wk h=>(I5 [⟨39,0,0,0,0⟩] _ _ (L5 (w:=wk) (xs:=[⟨39,0,0,0,0⟩]) (by simp)) hall (by simp)).mono fun e w' ⟨u,h1,h2,h3⟩=>⟨u,h1,World.ownsRow.mono h2 (by have:=h.size;simp;omega),A8 ((Below.refl _ _).alloc (Nat.le_refl _) _) h3⟩);clear k1 x0 hb0 hb1;exact A5s
set_option maxHeartbeats 2000000 in
theorem A4h(x:Cd)(h0:0≤x.i)(h1:x.i<4294967296)(hd:x.d≤1000)(ha:x.a≤1000)(hb:x.b≤1000)(HO:x.o=0)(hall:Q4 (nb0 (rg0 x.d) x.i))(w:World):Calls prog 268 #[.agg #[],ncV x] w fun e w'=>∃u,e= .returned u∧RowI w' w.heap.size 5 .u8 u (H0 (nb0 (rg0 x.d) x.i))∧Below w.heap.size w w':=by
 obtain⟨o,d,a,b,i,t⟩:=x;show Calls prog 268 #[.agg #[],.agg #[.int .i64 o,.int .i64 d,.int .i64 a,.int .i64 b,.int .u32 i,.int .i64 t]] w _
 simp only at h0 h1 hd ha hb HO;obtain⟨hb1,k1⟩:=B9 (w.alloc (.cells #[] 188)) [.int .i64 o,.int .i64 d,.int .i64 a,.int .i64 b,.int .u32 i,.int .i64 t] 61;have hb0:Below w.heap.size w (w.alloc (.cells #[] 188)):=(Below.refl _ _).alloc (Nat.le_refl _) _;obtain⟨W1,hW1⟩:∃W,(w.alloc (.cells #[] 188)).alloc (.cells #[.int .i64 o,.int .i64 d,.int .i64 a,.int .i64 b,.int .u32 i,.int .i64 t] 61)=W:=⟨_,rfl⟩
 rw[show([.int .i64 o,.int .i64 d,.int .i64 a,.int .i64 b,.int .u32 i,.int .i64 t]:List Value).toArray=#[.int .i64 o,.int .i64 d,.int .i64 a,.int .i64 b,.int .u32 i,.int .i64 t]from rfl,hW1]at hb1 k1;rw[show(w.alloc (.cells #[] 188)).heap.size=w.heap.size+1 by simp]at k1;have BB:Hid (Since w W1):=hid (A8 hb0 hb1);have x0:=(k1 0 _ rfl).1;have hs:w.heap.size+1<W1.heap.size:=B6 x0;have X0:∀wk,Since W1 wk→wk.cell? ⟨w.heap.size+1,0,none⟩=some (.int .i64 o):=fun wk h=>A7 h hs (k1 0 _ rfl).1
 have X1:∀wk,Since W1 wk→wk.cell? ⟨w.heap.size+1,1,none⟩=some (.int .i64 d):=fun wk h=>A7 h hs (k1 1 _ rfl).1
 have X2:∀wk,Since W1 wk→wk.cell? ⟨w.heap.size+1,2,none⟩=some (.int .i64 a):=fun wk h=>A7 h hs (k1 2 _ rfl).1
 have X3:∀wk,Since W1 wk→wk.cell? ⟨w.heap.size+1,3,none⟩=some (.int .i64 b):=fun wk h=>A7 h hs (k1 3 _ rfl).1
 have X4:∀wk,Since W1 wk→wk.cell? ⟨w.heap.size+1,4,none⟩=some (.int .u32 i):=fun wk h=>A7 h hs (k1 4 _ rfl).1
 have X5:∀wk,Since W1 wk→wk.cell? ⟨w.heap.size+1,5,none⟩=some (.int .i64 t):=fun wk h=>A7 h hs (k1 5 _ rfl).1
 have K0:=hid X0;have K1:=hid X1;have K2:=hid X2;have K3:=hid X3;have K4:=hid X4;have K5:=hid X5;have C1:=hid (E0 d hd);have C2:=hid (E0 a ha);have C3:=hid (E0 b hb);have h00:=Since.refl W1;subst HO;have CN:=hid (A5x (rg0 d) i h0 h1);have hLL:(nb0 (rg0 d) i).length≤100:=by unfold nb0;split<;>simp
 generalize rg0 d=rd at*
 generalize rg0 a=ra at*
 generalize rg0 b=rb at*
 generalize nb0 rd i=LL at*
 have CB:Hid (∀u wk,Since W1 wk→Rvs wk u LL→Calls prog 272 #[.agg #[],u] wk fun e w'=>∃u,e= .returned u∧RowI w' w.heap.size 5 .u8 u (H0 LL)∧Since W1 w'):=hid (fun u wk h hr=>(I5 LL u wk hr hall (by omega)).mono fun e w' ⟨u,h1,h2,h3⟩=>⟨u,h1,World.ownsRow.mono h2 (by have:=h.size;omega),A8 h h3⟩);clear k1 x0 hb0 hb1;go_enter func268,ntmps268;go_upto_region 1 with fail
 go_region_held3(fun wk=>Since W1 wk) (first|assumption|exact Since.drew (by assumption)|exact Since.next (by assumption) (by assumption)) ((go_at_call 273;(first|(with_reducible refine(C1.out _).mono ?_;rintro e wa ⟨rfl,hba⟩)|(with_reducible refine(C2.out _).mono ?_;rintro e wb ⟨rfl,hbb⟩)|(with_reducible refine(C3.out _).mono ?_;rintro e wc ⟨rfl,hbc⟩))))
 have hSz:Since W1 wc:=by assumption
 have y0:=K0.out _ hSz;have HZ:=hid hSz;clear hba hbb hbc C1 C2 C3 X0 X1 X2 X3 X4 X5;have X4:=K4.out;go_upto_region 3 with fail
 refine wp_region_held_drew (S:=(fun wk=>Since W1 wk)) (by kernel_rfl) ?_ (fun hHeld=>?_)
 ·exact U1
 refine tk 0 ?_;refine tk 1 ?_;refine tk 2 ?_;refine tk 3 ?_;refine tk 4 ?_;refine rd1 5 (fun K hK=>?_)
 (go_simp;(go_at_call 274;(with_reducible refine(CN.out _).mono ?_);rintro e wn ⟨un,rfl,hrn,hbn⟩))
 refine hK.out _ _ ?_ (fun hHeld=>?_)
 ·exact U1
 clear hK K
 try go_frame
 refine rd1 6 (fun K hK=>?_)
 (go_simp;(go_at_call 272;(with_reducible refine(CB.out un _ (by assumption) hrn).mono ?_);rintro e w9 ⟨u,rfl,hu,h9⟩))
 refine hK.out _ _ ?_ (fun hHeld=>?_)
 ·exact U1
 clear hK K
 try go_frame
 refine tk 7 ?_;refine wpAnyH_done (by kernel_rfl) ?_ _;go_wp2_with fail
 go_ret;exact⟨u,rfl,hu,A8 BB.out h9⟩
set_option maxHeartbeats 2000000 in
theorem A4f(x:Cd)(h0:0≤x.i)(h1:x.i<4294967296)(hd:x.d≤1000)(ha:x.a≤1000)(hb:x.b≤1000)(HO:2≤x.o∧x.o≤16)(hall:Q4 ([⟨op0L.getD (x.o-2).toNat 0,rg0 x.d,rg0 x.a,rg0 x.b,0⟩]))(w:World):Calls prog 268 #[.agg #[],ncV x] w fun e w'=>∃u,e= .returned u∧RowI w' w.heap.size 5 .u8 u (H0 ([⟨op0L.getD (x.o-2).toNat 0,rg0 x.d,rg0 x.a,rg0 x.b,0⟩]))∧Below w.heap.size w w':=by
 obtain⟨o,d,a,b,i,t⟩:=x;show Calls prog 268 #[.agg #[],.agg #[.int .i64 o,.int .i64 d,.int .i64 a,.int .i64 b,.int .u32 i,.int .i64 t]] w _
 simp only at h0 h1 hd ha hb HO;obtain⟨hb1,k1⟩:=B9 (w.alloc (.cells #[] 188)) [.int .i64 o,.int .i64 d,.int .i64 a,.int .i64 b,.int .u32 i,.int .i64 t] 61;have hb0:Below w.heap.size w (w.alloc (.cells #[] 188)):=(Below.refl _ _).alloc (Nat.le_refl _) _;obtain⟨W1,hW1⟩:∃W,(w.alloc (.cells #[] 188)).alloc (.cells #[.int .i64 o,.int .i64 d,.int .i64 a,.int .i64 b,.int .u32 i,.int .i64 t] 61)=W:=⟨_,rfl⟩
 rw[show([.int .i64 o,.int .i64 d,.int .i64 a,.int .i64 b,.int .u32 i,.int .i64 t]:List Value).toArray=#[.int .i64 o,.int .i64 d,.int .i64 a,.int .i64 b,.int .u32 i,.int .i64 t]from rfl,hW1]at hb1 k1;rw[show(w.alloc (.cells #[] 188)).heap.size=w.heap.size+1 by simp]at k1;have BB:Hid (Since w W1):=hid (A8 hb0 hb1);have x0:=(k1 0 _ rfl).1;have hs:w.heap.size+1<W1.heap.size:=B6 x0;have X0:∀wk,Since W1 wk→wk.cell? ⟨w.heap.size+1,0,none⟩=some (.int .i64 o):=fun wk h=>A7 h hs (k1 0 _ rfl).1
 have X1:∀wk,Since W1 wk→wk.cell? ⟨w.heap.size+1,1,none⟩=some (.int .i64 d):=fun wk h=>A7 h hs (k1 1 _ rfl).1
 have X2:∀wk,Since W1 wk→wk.cell? ⟨w.heap.size+1,2,none⟩=some (.int .i64 a):=fun wk h=>A7 h hs (k1 2 _ rfl).1
 have X3:∀wk,Since W1 wk→wk.cell? ⟨w.heap.size+1,3,none⟩=some (.int .i64 b):=fun wk h=>A7 h hs (k1 3 _ rfl).1
 have X4:∀wk,Since W1 wk→wk.cell? ⟨w.heap.size+1,4,none⟩=some (.int .u32 i):=fun wk h=>A7 h hs (k1 4 _ rfl).1
 have X5:∀wk,Since W1 wk→wk.cell? ⟨w.heap.size+1,5,none⟩=some (.int .i64 t):=fun wk h=>A7 h hs (k1 5 _ rfl).1
 have K0:=hid X0;have K1:=hid X1;have K2:=hid X2;have K3:=hid X3;have K4:=hid X4;have K5:=hid X5;have C1:=hid (E0 d hd);have C2:=hid (E0 a ha);have C3:=hid (E0 b hb);have h00:=Since.refl W1;obtain⟨ho1,ho2⟩:=HO;have e0:(o==0)=false:=beq_eq_false_iff_ne.2 (by omega);have e1:(o==1)=false:=beq_eq_false_iff_ne.2 (by omega);have e17:(o==17)=false:=beq_eq_false_iff_ne.2 (by omega);have e26:(o==26)=false:=beq_eq_false_iff_ne.2 (by omega);have g2:decide (2≤o)=true:=by simp;omega
 have l16:decide (o≤16)=true:=by simp;omega
 have g18:decide (18≤o)=false:=by simp;omega
 have g21:decide (21≤o)=false:=by simp;omega
 obtain⟨m,hm⟩:∃m:Nat,o=(m:Int)+2:=⟨(o-2).toNat,by omega⟩
 have hm15:m<15:=by omega
 have hm15':(m:Int)<15:=by omega
 have hsub:IntKind.i64.wrap (o-2)=(m:Int):=by rw[IntWalk.i64_left,IntWalk.wrap64_in _ (by omega)];omega
 have hmt:(o-2).toNat=m:=by omega
 simp only[hmt]at hall⊢;obtain⟨oq,hoq⟩:∃oq,op0L.getD m 0=oq:=⟨_,rfl⟩
 rw[hoq]at hall⊢;have HQ:=hid hoq;clear hm hmt hoq;generalize rg0 d=rd at*
 generalize rg0 a=ra at*
 generalize rg0 b=rb at*
 have CB:Hid (∀wk,Since W1 wk→Calls prog 272 #[.agg #[],.slice (some ⟨wk.heap.size,0,none⟩) 1 1] (wk.alloc (.cells #[.int .i64 oq,.int .i64 rd,.int .i64 ra,.int .i64 rb,.int .i64 0] 75)) fun e w'=>∃u,e= .returned u∧RowI w' w.heap.size 5 .u8 u (H0 [⟨oq,rd,ra,rb,0⟩])∧Below wk.heap.size wk w'):=hid (fun wk h=>(I5 [⟨oq,rd,ra,rb,0⟩] _ _ (L5 (w:=wk) (xs:=[⟨oq,rd,ra,rb,0⟩]) (by simp)) hall (by simp)).mono fun e w' ⟨u,h1,h2,h3⟩=>⟨u,h1,World.ownsRow.mono h2 (by have:=h.size;simp;omega),A8 ((Below.refl _ _).alloc (Nat.le_refl _) _) h3⟩);clear k1 x0 hb0 hb1;go_enter func268,ntmps268;go_upto_region 1 with fail
 go_region_held3(fun wk=>Since W1 wk) (first|assumption|exact Since.drew (by assumption)|exact Since.next (by assumption) (by assumption)) ((go_at_call 273;(first|(with_reducible refine(C1.out _).mono ?_;rintro e wa ⟨rfl,hba⟩)|(with_reducible refine(C2.out _).mono ?_;rintro e wb ⟨rfl,hbb⟩)|(with_reducible refine(C3.out _).mono ?_;rintro e wc ⟨rfl,hbc⟩))))
 have hSz:Since W1 wc:=by assumption
 have y0:=K0.out _ hSz;have HZ:=hid hSz;clear hba hbb hbc C1 C2 C3 X0 X1 X2 X3 X4 X5;go_upto_region 10 with fail
 obtain⟨hbt,kt⟩:=B9 wc (op0L.map (Value.int .i64)) 3;have ht:=(kt m (.int .i64 oq) (by rw[List.getElem?_map,List.getElem?_eq_getElem (show m<op0L.length by exact hm15),←HQ.out,List.getD_eq_getElem?_getD,List.getElem?_eq_getElem (show m<op0L.length by exact hm15)];rfl)).1;rw[show(op0L.map (Value.int .i64)).toArray=#[.int .i64 0,.int .i64 1,.int .i64 10,.int .i64 12,.int .i64 14,.int .i64 11,.int .i64 13,.int .i64 9,.int .i64 8,.int .i64 5,.int .i64 2,.int .i64 6,.int .i64 7,.int .i64 3,.int .i64 4]by kernel_rfl]at hbt ht;have hlt:=B6 ht;have HT1:Hid (∀wk,Since (wc.alloc (.cells #[.int .i64 0,.int .i64 1,.int .i64 10,.int .i64 12,.int .i64 14,.int .i64 11,.int .i64 13,.int .i64 9,.int .i64 8,.int .i64 5,.int .i64 2,.int .i64 6,.int .i64 7,.int .i64 3,.int .i64 4] 3)) wk→Since W1 wk):=hid (fun wk h=>A8 (A8 HZ.out hbt) h);generalize wc.alloc (.cells #[.int .i64 0,.int .i64 1,.int .i64 10,.int .i64 12,.int .i64 14,.int .i64 11,.int .i64 13,.int .i64 9,.int .i64 8,.int .i64 5,.int .i64 2,.int .i64 6,.int .i64 7,.int .i64 3,.int .i64 4] 3)=wt at*
 generalize wc.heap.size=gt at*
 have X0:∀wk,Since wt wk→wk.cell? ⟨w.heap.size+1,0,none⟩=some (.int .i64 o):=fun wk h=>K0.out wk (HT1.out wk h)
 have T0:∀wk,Since wt wk→wk.cell? ⟨gt,m,none⟩=some (.int .i64 oq):=fun wk h=>A7 h hlt ht
 have CB2:=hid (fun(wk:World) (h:Since wt wk)=>CB.out wk (HT1.out wk h));have hS0:=Since.refl wt;clear y0 ht hbt hSz;refine wp_region_held_drew (S:=(fun wk=>Since wt wk)) (by kernel_rfl) ?_ (fun hHeld=>?_)
 ·exact A7I
 refine tk 0 ?_;refine tk 1 ?_;refine tk 2 ?_;refine tk 3 ?_;refine tk 4 ?_;refine tk 5 ?_;refine tk 6 ?_;refine tk 7 ?_;refine tk 8 ?_;refine tk 9 ?_;refine tk 10 ?_;refine rd1 11 (fun K hK=>?_);go_simp;refine hK.out _ _ ?_ (fun hHeld=>?_)
 ·exact A7I
 clear hK K
 try go_frame
 refine rd1 12 (fun K hK=>?_)
 (go_simp;(go_at_call 272;(refine(CB2.out _ (Since.drew hS0)).mono ?_);rintro e w9 ⟨u,rfl,hu,h9⟩))
 refine hK.out _ _ ?_ (fun hHeld=>?_)
 ·exact A7I
 clear hK K
 try go_frame
 refine tk 13 ?_;refine wpAnyH_done (by kernel_rfl) ?_ _;have hS9:Since wt w9:=(by assumption)
 go_wp2_with fail
 go_ret;exact⟨u,rfl,hu,A8 BB.out (HT1.out _ hS9)⟩
theorem A3D{p:Prop}(h:p:=by
 (first|assumption|exact Since.drew HS9.out|exact Since.next (Since.drew HS9.out) ((Below.refl _ _).alloc (Nat.le_refl _) _)|exact Since.next hsa h9|exact Since.next (by assumption) (by assumption))
 ):p:=h
theorem A8u{p:Prop}(h:p:=by
 refine hK.out _ _ ?_ (fun hHeld=>?_)
 ·exact A3D
 clear hK K
 try go_frame
 refine rd1 12 (fun K hK=>?_)
 (go_simp;(go_at_call 272;(with_reducible refine(CB.out ua _ (by assumption) (RowR.rvs hra (by simp;omega))).mono ?_);rintro e w9 ⟨u,rfl,hu,h9⟩))
 refine hK.out _ _ ?_ (fun hHeld=>?_)
 ·exact A3D
 clear hK K
 try go_frame
 refine tk 13 ?_;refine wpAnyH_done (by kernel_rfl) ?_ _;have hS9:Since W1 w9:=(by assumption)
 go_wp2_with fail
 go_ret;exact⟨u,rfl,hu,A8 BB.out hS9⟩
 ):p:=h
set_option maxHeartbeats 2000000 in
theorem A3U(x:Cd)(h0:0≤x.i)(h1:x.i<4294967296)(hd:x.d≤1000)(ha:x.a≤1000)(hb:x.b≤1000)(HO:18≤x.o∧x.o≤20)(hall:Q4 (bs0 x++[⟨x.o+7,rg0 x.d,bf0 x,0,loR x.i⟩]))(w:World):Calls prog 268 #[.agg #[],ncV x] w fun e w'=>∃u,e= .returned u∧RowI w' w.heap.size 5 .u8 u (H0 (bs0 x++[⟨x.o+7,rg0 x.d,bf0 x,0,loR x.i⟩]))∧Below w.heap.size w w':=by
 obtain⟨o,d,a,b,i,t⟩:=x;show Calls prog 268 #[.agg #[],.agg #[.int .i64 o,.int .i64 d,.int .i64 a,.int .i64 b,.int .u32 i,.int .i64 t]] w _
 simp only at h0 h1 hd ha hb HO;obtain⟨hb1,k1⟩:=B9 (w.alloc (.cells #[] 188)) [.int .i64 o,.int .i64 d,.int .i64 a,.int .i64 b,.int .u32 i,.int .i64 t] 61;have hb0:Below w.heap.size w (w.alloc (.cells #[] 188)):=(Below.refl _ _).alloc (Nat.le_refl _) _;obtain⟨W1,hW1⟩:∃W,(w.alloc (.cells #[] 188)).alloc (.cells #[.int .i64 o,.int .i64 d,.int .i64 a,.int .i64 b,.int .u32 i,.int .i64 t] 61)=W:=⟨_,rfl⟩
 rw[show([.int .i64 o,.int .i64 d,.int .i64 a,.int .i64 b,.int .u32 i,.int .i64 t]:List Value).toArray=#[.int .i64 o,.int .i64 d,.int .i64 a,.int .i64 b,.int .u32 i,.int .i64 t]from rfl,hW1]at hb1 k1;rw[show(w.alloc (.cells #[] 188)).heap.size=w.heap.size+1 by simp]at k1;have BB:Hid (Since w W1):=hid (A8 hb0 hb1);have x0:=(k1 0 _ rfl).1;have hs:w.heap.size+1<W1.heap.size:=B6 x0;have X0:∀wk,Since W1 wk→wk.cell? ⟨w.heap.size+1,0,none⟩=some (.int .i64 o):=fun wk h=>A7 h hs (k1 0 _ rfl).1
 have X1:∀wk,Since W1 wk→wk.cell? ⟨w.heap.size+1,1,none⟩=some (.int .i64 d):=fun wk h=>A7 h hs (k1 1 _ rfl).1
 have X2:∀wk,Since W1 wk→wk.cell? ⟨w.heap.size+1,2,none⟩=some (.int .i64 a):=fun wk h=>A7 h hs (k1 2 _ rfl).1
 have X3:∀wk,Since W1 wk→wk.cell? ⟨w.heap.size+1,3,none⟩=some (.int .i64 b):=fun wk h=>A7 h hs (k1 3 _ rfl).1
 have X4:∀wk,Since W1 wk→wk.cell? ⟨w.heap.size+1,4,none⟩=some (.int .u32 i):=fun wk h=>A7 h hs (k1 4 _ rfl).1
 have X5:∀wk,Since W1 wk→wk.cell? ⟨w.heap.size+1,5,none⟩=some (.int .i64 t):=fun wk h=>A7 h hs (k1 5 _ rfl).1
 have K0:=hid X0;have K1:=hid X1;have K2:=hid X2;have K3:=hid X3;have K4:=hid X4;have K5:=hid X5;have C1:=hid (E0 d hd);have C2:=hid (E0 a ha);have C3:=hid (E0 b hb);have h00:=Since.refl W1;obtain⟨ho1,ho2⟩:=HO;have e0:(o==0)=false:=beq_eq_false_iff_ne.2 (by omega);have e1:(o==1)=false:=beq_eq_false_iff_ne.2 (by omega);have e17:(o==17)=false:=beq_eq_false_iff_ne.2 (by omega);have e26:(o==26)=false:=beq_eq_false_iff_ne.2 (by omega);have g2:decide (2≤o)=true:=by simp;omega
 have l16:decide (o≤16)=false:=by simp;omega
 have g18:decide (18≤o)=true:=by simp;omega
 have l20:decide (o≤20)=true:=by simp;omega
 have g21:decide (21≤o)=false:=by simp;omega
 have hs1:IntKind.i64.wrap (o-18)=o-18:=by rw[IntWalk.i64_left];exact IntWalk.wrap64_in _ (by omega)
 have hs2:IntKind.i64.wrap (o-18+25)=o+7:=by rw[IntWalk.i64_left,IntWalk.wrap64_in _ (by omega)];omega
 have CX:=hid (A6w ⟨o,d,a,b,i,t⟩ h0 h1 ha);have hLL:(bs0 ⟨o,d,a,b,i,t⟩).length≤2:=by unfold bs0;split<;>simp
 generalize bs0 ⟨o,d,a,b,i,t⟩=LL at*
 generalize bf0 ⟨o,d,a,b,i,t⟩=bf at*
 have CX:Hid (∀wk,Calls prog 275 #[.agg #[],.agg #[.int .i64 o,.int .i64 d,.int .i64 a,.int .i64 b,.int .u32 i,.int .i64 t]] wk fun e w'=>∃u,e= .returned (.tuple #[u,.int .i64 bf,.int .i64 (loR i)])∧RowR w' wk.heap.size u LL∧Below wk.heap.size wk w'):=CX;generalize loR i=lw at*
 generalize rg0 d=rd at*
 generalize rg0 a=ra at*
 generalize rg0 b=rb at*
 have CB:Hid (∀u wk,Since W1 wk→Rvs wk u (LL++[⟨o+7,rd,bf,0,lw⟩])→Calls prog 272 #[.agg #[],u] wk fun e w'=>∃u,e= .returned u∧RowI w' w.heap.size 5 .u8 u (H0 (LL++[⟨o+7,rd,bf,0,lw⟩]))∧Below wk.heap.size wk w'):=hid (fun u wk h hr=>(I5 _ u wk hr hall (by simp;omega)).mono fun e w' ⟨u,h1,h2,h3⟩=>⟨u,h1,World.ownsRow.mono h2 (by have:=h.size;omega),h3⟩);clear k1 x0 hb0 hb1;go_enter func268,ntmps268;go_upto_region 1 with fail
 go_region_held3(fun wk=>Since W1 wk) (first|assumption|exact Since.drew (by assumption)|exact Since.next (by assumption) (by assumption)) ((go_at_call 273;(first|(with_reducible refine(C1.out _).mono ?_;rintro e wa ⟨rfl,hba⟩)|(with_reducible refine(C2.out _).mono ?_;rintro e wb ⟨rfl,hbb⟩)|(with_reducible refine(C3.out _).mono ?_;rintro e wc ⟨rfl,hbc⟩))))
 have hSz:Since W1 wc:=by assumption
 have y0:=K0.out _ hSz;have HZ:=hid hSz;clear hba hbb hbc C1 C2 C3 X0 X1 X2 X3 X4 X5;have y1:=K1.out _ hSz;have y2:=K2.out _ hSz;have y3:=K3.out _ hSz;have y4:=K4.out _ hSz;have y5:=K5.out _ hSz;go_upto_region 13 with(go_at_call 275;(with_reducible refine(CX.out _).mono ?_);rintro e wb9 ⟨ub,rfl,hrb,hbb9⟩)
 have HRB:=hid hrb;have HSB:=hid hbb9;have HS9:=hid (show Since W1 wb9 from A8 HZ.out hbb9);have X0:=K0.out;clear y0 y1 y2 y3 y4 y5 hrb hbb9 hSz CX;refine wp_region_held_drew (S:=(fun wk=>Since W1 wk)) (by kernel_rfl) ?_ (fun hHeld=>?_)
 ·exact A3D
 refine tk 0 ?_;refine tk 1 ?_;refine tk 2 ?_;refine tk 3 ?_;refine tk 4 ?_;refine tk 5 ?_;refine tk 6 ?_;refine tk 7 ?_;refine tk 8 ?_;refine tk 9 ?_;refine rd1 10 (fun K hK=>?_);go_simp;refine hK.out _ _ ?_ (fun hHeld=>?_)
 ·exact A3D
 clear hK K
 try go_frame
 refine rd1 11 (fun K hK=>?_)
 (refine Z0 rfl _ _ rfl wc.heap.size ub LL rfl (RowR.below (RowR.below HRB.out (Below.refl _ _).drew) ((Below.refl _ _).alloc (Nat.le_refl _) _)) ⟨o+7,rd,bf,0,lw⟩ wb9.heap.size rfl (by exact I3 _ _ _) (by omega) (by have:=HSB.out.size;simp;omega) ?_;intro ua wa hra hba;have hsa:Since W1 wa:=((Since.next (Since.drew HS9.out) ((Below.refl _ _).alloc (Nat.le_refl _) _)).trans (hba.mono HZ.out.size)))
 exact A8u
set_option maxHeartbeats 2000000 in
theorem A3T(x:Cd)(h0:0≤x.i)(h1:x.i<4294967296)(hd:x.d≤1000)(ha:x.a≤1000)(hb:x.b≤1000)(HO:21≤x.o∧x.o≤23)(hall:Q4 (bs0 x++[⟨x.o+7,0,bf0 x,rg0 x.b,loR x.i⟩]))(w:World):Calls prog 268 #[.agg #[],ncV x] w fun e w'=>∃u,e= .returned u∧RowI w' w.heap.size 5 .u8 u (H0 (bs0 x++[⟨x.o+7,0,bf0 x,rg0 x.b,loR x.i⟩]))∧Below w.heap.size w w':=by
 obtain⟨o,d,a,b,i,t⟩:=x;show Calls prog 268 #[.agg #[],.agg #[.int .i64 o,.int .i64 d,.int .i64 a,.int .i64 b,.int .u32 i,.int .i64 t]] w _
 simp only at h0 h1 hd ha hb HO;obtain⟨hb1,k1⟩:=B9 (w.alloc (.cells #[] 188)) [.int .i64 o,.int .i64 d,.int .i64 a,.int .i64 b,.int .u32 i,.int .i64 t] 61;have hb0:Below w.heap.size w (w.alloc (.cells #[] 188)):=(Below.refl _ _).alloc (Nat.le_refl _) _;obtain⟨W1,hW1⟩:∃W,(w.alloc (.cells #[] 188)).alloc (.cells #[.int .i64 o,.int .i64 d,.int .i64 a,.int .i64 b,.int .u32 i,.int .i64 t] 61)=W:=⟨_,rfl⟩
 rw[show([.int .i64 o,.int .i64 d,.int .i64 a,.int .i64 b,.int .u32 i,.int .i64 t]:List Value).toArray=#[.int .i64 o,.int .i64 d,.int .i64 a,.int .i64 b,.int .u32 i,.int .i64 t]from rfl,hW1]at hb1 k1;rw[show(w.alloc (.cells #[] 188)).heap.size=w.heap.size+1 by simp]at k1;have BB:Hid (Since w W1):=hid (A8 hb0 hb1);have x0:=(k1 0 _ rfl).1;have hs:w.heap.size+1<W1.heap.size:=B6 x0;have X0:∀wk,Since W1 wk→wk.cell? ⟨w.heap.size+1,0,none⟩=some (.int .i64 o):=fun wk h=>A7 h hs (k1 0 _ rfl).1
 have X1:∀wk,Since W1 wk→wk.cell? ⟨w.heap.size+1,1,none⟩=some (.int .i64 d):=fun wk h=>A7 h hs (k1 1 _ rfl).1
 have X2:∀wk,Since W1 wk→wk.cell? ⟨w.heap.size+1,2,none⟩=some (.int .i64 a):=fun wk h=>A7 h hs (k1 2 _ rfl).1
 have X3:∀wk,Since W1 wk→wk.cell? ⟨w.heap.size+1,3,none⟩=some (.int .i64 b):=fun wk h=>A7 h hs (k1 3 _ rfl).1
 have X4:∀wk,Since W1 wk→wk.cell? ⟨w.heap.size+1,4,none⟩=some (.int .u32 i):=fun wk h=>A7 h hs (k1 4 _ rfl).1
 have X5:∀wk,Since W1 wk→wk.cell? ⟨w.heap.size+1,5,none⟩=some (.int .i64 t):=fun wk h=>A7 h hs (k1 5 _ rfl).1
 have K0:=hid X0;have K1:=hid X1;have K2:=hid X2;have K3:=hid X3;have K4:=hid X4;have K5:=hid X5;have C1:=hid (E0 d hd);have C2:=hid (E0 a ha);have C3:=hid (E0 b hb);have h00:=Since.refl W1;obtain⟨ho1,ho2⟩:=HO;have e0:(o==0)=false:=beq_eq_false_iff_ne.2 (by omega);have e1:(o==1)=false:=beq_eq_false_iff_ne.2 (by omega);have e17:(o==17)=false:=beq_eq_false_iff_ne.2 (by omega);have e26:(o==26)=false:=beq_eq_false_iff_ne.2 (by omega);have g2:decide (2≤o)=true:=by simp;omega
 have l16:decide (o≤16)=false:=by simp;omega
 have g18:decide (18≤o)=true:=by simp;omega
 have l20:decide (o≤20)=false:=by simp;omega
 have g21:decide (21≤o)=true:=by simp;omega
 have l23:decide (o≤23)=true:=by simp;omega
 have hs1:IntKind.i64.wrap (o-21)=o-21:=by rw[IntWalk.i64_left];exact IntWalk.wrap64_in _ (by omega)
 have hs2:IntKind.i64.wrap (o-21+28)=o+7:=by rw[IntWalk.i64_left,IntWalk.wrap64_in _ (by omega)];omega
 have CX:=hid (A6w ⟨o,d,a,b,i,t⟩ h0 h1 ha);have hLL:(bs0 ⟨o,d,a,b,i,t⟩).length≤2:=by unfold bs0;split<;>simp
 generalize bs0 ⟨o,d,a,b,i,t⟩=LL at*
 generalize bf0 ⟨o,d,a,b,i,t⟩=bf at*
 have CX:Hid (∀wk,Calls prog 275 #[.agg #[],.agg #[.int .i64 o,.int .i64 d,.int .i64 a,.int .i64 b,.int .u32 i,.int .i64 t]] wk fun e w'=>∃u,e= .returned (.tuple #[u,.int .i64 bf,.int .i64 (loR i)])∧RowR w' wk.heap.size u LL∧Below wk.heap.size wk w'):=CX;generalize loR i=lw at*
 generalize rg0 d=rd at*
 generalize rg0 a=ra at*
 generalize rg0 b=rb at*
 have CB:Hid (∀u wk,Since W1 wk→Rvs wk u (LL++[⟨o+7,0,bf,rb,lw⟩])→Calls prog 272 #[.agg #[],u] wk fun e w'=>∃u,e= .returned u∧RowI w' w.heap.size 5 .u8 u (H0 (LL++[⟨o+7,0,bf,rb,lw⟩]))∧Below wk.heap.size wk w'):=hid (fun u wk h hr=>(I5 _ u wk hr hall (by simp;omega)).mono fun e w' ⟨u,h1,h2,h3⟩=>⟨u,h1,World.ownsRow.mono h2 (by have:=h.size;omega),h3⟩);clear k1 x0 hb0 hb1;go_enter func268,ntmps268;go_upto_region 1 with fail
 go_region_held3(fun wk=>Since W1 wk) (first|assumption|exact Since.drew (by assumption)|exact Since.next (by assumption) (by assumption)) ((go_at_call 273;(first|(with_reducible refine(C1.out _).mono ?_;rintro e wa ⟨rfl,hba⟩)|(with_reducible refine(C2.out _).mono ?_;rintro e wb ⟨rfl,hbb⟩)|(with_reducible refine(C3.out _).mono ?_;rintro e wc ⟨rfl,hbc⟩))))
 have hSz:Since W1 wc:=by assumption
 have y0:=K0.out _ hSz;have HZ:=hid hSz;clear hba hbb hbc C1 C2 C3 X0 X1 X2 X3 X4 X5;have y1:=K1.out _ hSz;have y2:=K2.out _ hSz;have y3:=K3.out _ hSz;have y4:=K4.out _ hSz;have y5:=K5.out _ hSz;go_upto_region 16 with(go_at_call 275;(with_reducible refine(CX.out _).mono ?_);rintro e wb9 ⟨ub,rfl,hrb,hbb9⟩)
 have HRB:=hid hrb;have HSB:=hid hbb9;have HS9:=hid (show Since W1 wb9 from A8 HZ.out hbb9);have X0:=K0.out;clear y0 y1 y2 y3 y4 y5 hrb hbb9 hSz CX;refine wp_region_held_drew (S:=(fun wk=>Since W1 wk)) (by kernel_rfl) ?_ (fun hHeld=>?_)
 ·exact A3D
 refine tk 0 ?_;refine tk 1 ?_;refine tk 2 ?_;refine tk 3 ?_;refine tk 4 ?_;refine tk 5 ?_;refine tk 6 ?_;refine tk 7 ?_;refine tk 8 ?_;refine tk 9 ?_;refine rd1 10 (fun K hK=>?_);go_simp;refine hK.out _ _ ?_ (fun hHeld=>?_)
 ·exact A3D
 clear hK K
 try go_frame
 refine rd1 11 (fun K hK=>?_)
 (refine Z0 rfl _ _ rfl wc.heap.size ub LL rfl (RowR.below (RowR.below HRB.out (Below.refl _ _).drew) ((Below.refl _ _).alloc (Nat.le_refl _) _)) ⟨o+7,0,bf,rb,lw⟩ wb9.heap.size rfl (by exact I3 _ _ _) (by omega) (by have:=HSB.out.size;simp;omega) ?_;intro ua wa hra hba;have hsa:Since W1 wa:=((Since.next (Since.drew HS9.out) ((Below.refl _ _).alloc (Nat.le_refl _) _)).trans (hba.mono HZ.out.size)))
 exact A8u
end Go.Proofs.YtajljbmeaeeknaaGreat
