/- -/
import Derived.Test.YtdojafpjipcbjaaGreatRows
import Derived.WalkKit
import Derived.WalkSpells
import Derived.WalkLawsBesides
import Derived.Laws.EntriesVeiled
import Derived.Lib.Hide
import Derived.OwnWalk
import Derived.Laws.OwnMore
import Derived.Deep.Quiet
import Derived.StillTail
import Derived.BigQuiet
import Derived.Below
import Derived.Deep.QuietTactic
import Derived.Deep.RegionHeld3
import Derived.BigGuardPart
import Derived.Laws.AppendOwn
import Derived.Maps.AppendAt
import Derived.Laws.Bits128
open Go.Proofs.Tryz
open Go.Lib (hid)
set_option maxHeartbeats 1000000
namespace Go.Proofs.YtdojafpjipcbjaaGreat
open Go.RowKit
def Y0(w:World)(r:Nat):Option (Array MapEntry×Nat):=match w.heap[r]? with|some (.map es c)=>some (es,c)|_=>none
def j6(w:World)(r:Nat)(es:Array MapEntry)(c:Nat):World:={w with heap:=w.heap.setIfInBounds r (.map es c)}
theorem k6(w:World)(es:Array MapEntry)(c n:Nat)(hn:n=w.heap.size):Y0 (w.alloc (.map es c)) n=some (es,c):=by
 subst hn;unfold Y0;rw[show(w.alloc (.map es c)).heap[w.heap.size]? =some (.map es c)from Array.getElem?_push_size]
theorem Z9(w:World)(o:Obj)(n:Nat)(hn:n<w.heap.size):Y0 (w.alloc o) n=Y0 w n:=by
 unfold Y0;rw[Below.heap_alloc w o n hn]
theorem A1h(w:World)(n:Nat):Y0 w.drew n=Y0 w n:=rfl
theorem A0s(w:World)(n k:Nat):Y0 (w.drewN k) n=Y0 w n:=rfl
theorem d8(w:World)(es es':Array MapEntry)(c c' n:Nat)(hn:n=w.heap.size):j6 (w.alloc (.map es c)) n es' c'=w.alloc (.map es' c'):=by
 subst hn;have h:(w.heap.push (.map es c)).setIfInBounds w.heap.size (.map es' c')=w.heap.push (.map es' c'):=by
  apply Array.ext_getElem?;intro i;rw[Array.getElem?_setIfInBounds,Array.getElem?_push,Array.getElem?_push];by_cases hi:i=w.heap.size
  ·subst hi;simp
  ·rw[if_neg (fun e=>hi e.symm),if_neg hi,if_neg hi]
 exact congrArg (fun x=>{w with heap:=x}) h
theorem X3(w:World)(o:Obj)(n:Nat)(es:Array MapEntry)(c:Nat)(hn:n<w.heap.size):j6 (w.alloc o) n es c=(j6 w n es c).alloc o:=by
 have h:(w.heap.push o).setIfInBounds n (.map es c)=(w.heap.setIfInBounds n (.map es c)).push o:=by
  apply Array.ext_getElem?;intro i;rw[Array.getElem?_setIfInBounds,Array.getElem?_push,Array.getElem?_push,Array.getElem?_setIfInBounds,Array.size_push,Array.size_setIfInBounds];by_cases hi:i=w.heap.size
  ·subst hi;rw[if_neg (by omega),if_pos rfl,if_pos rfl]
  ·rw[if_neg hi,if_neg hi];by_cases h2:n=i
   ·rw[if_pos h2,if_pos h2,if_pos (by omega),if_pos hn]
   ·rw[if_neg h2,if_neg h2]
 exact congrArg (fun x=>{w with heap:=x}) h
theorem A0d(w:World)(n:Nat)(es:Array MapEntry)(c:Nat):(j6 w n es c).heap.size=w.heap.size:=by simp[j6]
attribute [go_sem] k6 Z9 A1h A0s d8 X3 A0d
theorem A1G(k:TypeDesc)(v:Value)(i:Nat):Instr.findNow k v [] i=some none:=rfl
theorem A1H(kk:IntKind)(n m:Int)(v:Value)(b:Nat)(es:List MapEntry)(i:Nat):
  Instr.findNow (.int kk) (.int kk n) (⟨.int kk m,v,b⟩::es) i=if n=m then some (some (i,v))else Instr.findNow (.int kk) (.int kk n) es (i+1):=by
 by_cases h:n=m
 ·subst h;simp[Instr.findNow,Instr.sameNow]
 ·have:(n==m)=false:=by simpa using h
  simp[Instr.findNow,Instr.sameNow,h,this]
attribute [go_sem] A1G A1H
def Only(b:Nat)(w w':World):Prop:=w.heap.size≤w'.heap.size∧∀k,k<w.heap.size→k≠b→w'.heap[k]? =w.heap[k]?
theorem Only.refl(b:Nat)(w:World):Only b w w:=⟨Nat.le_refl _,fun _ _ _=>rfl⟩
theorem Only.alloc{b:Nat}{w w':World}(h:Only b w w')(o:Obj):Only b w (w'.alloc o):=
 ⟨Nat.le_trans h.1 (by simp),fun k h1 h2=>(Below.heap_alloc w' o k (Nat.lt_of_lt_of_le h1 h.1)).trans (h.2 k h1 h2)⟩
theorem Only.setCell{b:Nat}{w w':World}(h:Only b w w'){a:Addr}(ha:a.block=b)(v:Value):Only b w (w'.setCell a v):=
 ⟨Nat.le_trans h.1 (by simp[World.setCell]),fun k h1 h2=>(Below.heap_setCell w' a v k (by rw[ha];exact h2)).trans (h.2 k h1 h2)⟩
theorem Only.at{b:Nat}{w w':World}(h:Only b w w')(o:Nat)(v:Value):Only b w (w'.setCell ⟨b,o,none⟩ v):=h.setCell rfl v
theorem B0{B b:Nat}{w w':World}(h:Below B w w')(hb:B≤b)(o:Nat)(v:Value):Below B w (w'.setCell ⟨b,o,none⟩ v):=Below.setCell h hb v
theorem A9{B:Nat}{w w':World}(h:Below B w w')(n:Nat):Below B w (w'.drewN n):=h.trans ⟨rfl,rfl,rfl,Nat.le_refl _,fun _ _=>rfl⟩
theorem Only.drew{b:Nat}{w w':World}(h:Only b w w'):Only b w w'.drew:=h
theorem Only.drewN{b:Nat}{w w':World}(h:Only b w w')(n:Nat):Only b w (w'.drewN n):=h
theorem Only.cell{b:Nat}{w w':World}(h:Only b w w'){k o:Nat}(hk:k<w.heap.size)(hb:k≠b):w'.cell? ⟨k,o,none⟩=w.cell? ⟨k,o,none⟩:=by
 unfold World.cell?;rw[h.2 k hk hb]
theorem A7c{W w1:World}(hb:Below W.heap.size W w1):(∀b o,b<W.heap.size→w1.cell? ⟨b,o,none⟩=W.cell? ⟨b,o,none⟩)∧(∀b o,b<W.heap.size→w1.frozen? ⟨b,o,none⟩=W.frozen? ⟨b,o,none⟩):=
 ⟨fun b o h=>hb.cell (p:=⟨b,o,none⟩) h,fun b o h=>hb.frozen (p:=⟨b,o,none⟩) h⟩
theorem A0{w w1:World}{cs:Array Value}{T:TypeId}(hb:Below (w.alloc (.cells cs T)).heap.size (w.alloc (.cells cs T)) w1)(i:Nat):w1.cell? ⟨w.heap.size,i,none⟩=cs[i]? :=by
 rw[(A7c hb).1 _ _ (by simp)];simp[go_sem]
theorem A6{w w1:World}{o:Obj}(hb:Below (w.alloc o).heap.size (w.alloc o) w1):Below w.heap.size w w1:=((Below.refl _ _).alloc (Nat.le_refl _) _).trans (hb.mono (by simp))
theorem V6{B:Nat}{w w1 w2:World}(h1:Below B w w1)(hB:B≤w1.heap.size)(h2:Below w1.heap.size w1 w2):Below B w w2:=h1.trans (h2.mono hB)
theorem A2{w w1 w2:World}(h1:Below w.heap.size w w1)(h2:Below w1.heap.size w1 w2):Below w.heap.size w w2:=V6 h1 h1.size h2
end Go.Proofs.YtdojafpjipcbjaaGreat
namespace Go.Proofs.YtdojafpjipcbjaaGreat
open Go.RowKit
set_option linter.unusedVariables false
set_option linter.unusedSimpArgs false
def Slc(w:World)(v:Value)(n z:Nat)(C:Nat→Nat→Nat→Prop):Prop:=
 ∃(a:Option Addr) (c:Nat),v= .slice a n c∧n≤c∧(n≤140737488351232∧c≤9223372036854775807)∧(a=none→c=0)∧∀i,i<n→∃b o,a=some ⟨b,o,none⟩∧b<w.heap.size∧C i b (o+i*z)
def Ints(k:IntKind)(w:World)(v:Value)(xs:List Int):Prop:=Slc w v xs.length 1 fun i b o=>w.cell? ⟨b,o,none⟩=some (.int k (xs.getD i 0))
structure Nd where
 op:Int
 width:Int
 flags:Int
 args:List Int
 imm:Int
 deriving Inhabited
def NdAt(w:World)(b o:Nat)(x:Nd):Prop:=
 w.cell? ⟨b,o,none⟩=some (.int .i64 x.op)∧w.cell? ⟨b,o+1,none⟩=some (.int .i64 x.width)∧w.cell? ⟨b,o+2,none⟩=some (.int .i64 x.flags)∧
 (∃v,w.cell? ⟨b,o+3,none⟩=some v∧Ints .i64 w v x.args)∧w.cell? ⟨b,o+4,none⟩=some (.int .u32 x.imm)
def Nds(w:World)(v:Value)(ts:List Nd):Prop:=Slc w v ts.length 5 fun i b o=>NdAt w b o (ts.getD i default)
theorem H4{B:Nat}{w w':World}(h:Below B w w'){b o:Nat}{v:Value}(hb:b<B)(hc:w.cell? ⟨b,o,none⟩=some v):w'.cell? ⟨b,o,none⟩=some v:=by
 rw[←hc];exact h.cell (p:=⟨b,o,none⟩) hb
theorem F0{w:World}{b o:Nat}{v:Value}(h:w.cell? ⟨b,o,none⟩=some v):b<w.heap.size:=by
 unfold World.cell? at h;by_cases hb:b<w.heap.size
 ·exact hb
 ·simp[Array.getElem?_eq_none (Nat.le_of_not_lt hb)]at h
theorem Slc.stays{w w':World}{v:Value}{n z:Nat}{C C':Nat→Nat→Nat→Prop}(h:Slc w v n z C)(hb:Below w.heap.size w w')(hC:∀i b o,b<w.heap.size→C i b o→C' i b o):Slc w' v n z C':=by
 obtain⟨a,c,e,h1,h2,h3,h4⟩:=h;refine⟨a,c,e,h1,h2,h3,fun i hi=>?_⟩;obtain⟨b,o,e1,e2,e3⟩:=h4 i hi;exact⟨b,o,e1,Nat.lt_of_lt_of_le e2 hb.size,hC i b _ e2 e3⟩
theorem Ints.stays{k:IntKind}{w w':World}{v:Value}{xs:List Int}(h:Ints k w v xs)(hb:Below w.heap.size w w'):Ints k w' v xs:=
 Slc.stays h hb fun _ _ _ hlt hc=>H4 hb hlt hc
theorem NdAt.stays{w w':World}{b o:Nat}{x:Nd}(h:NdAt w b o x)(hlt:b<w.heap.size)(hb:Below w.heap.size w w'):NdAt w' b o x:=by
 obtain⟨h1,h2,h3,⟨v,h4,h5⟩,h6⟩:=h;exact⟨H4 hb hlt h1,H4 hb hlt h2,H4 hb hlt h3,⟨v,H4 hb hlt h4,h5.stays hb⟩,H4 hb hlt h6⟩
theorem Nds.stays{w w':World}{v:Value}{ts:List Nd}(h:Nds w v ts)(hb:Below w.heap.size w w'):Nds w' v ts:=
 Slc.stays h hb fun _ _ _ hlt hc=>hc.stays hlt hb
def RowI(w:World)(base:Nat)(e:TypeId)(k:IntKind)(v:Value)(xs:List Int):Prop:=w.ownsRow base e 1 v xs.length (xs.map (Value.int k))
theorem RowI.ints{w:World}{base:Nat}{e:TypeId}{k:IntKind}{v:Value}{xs:List Int}(h:RowI w base e k v xs)(hl:xs.length≤140737488351232):Ints k w v xs:=by
 obtain⟨_,⟨rfl,h0⟩|⟨g,cap,cur,rfl,hb,hg,h1,h2,h3,h4⟩⟩:=h
 ·exact⟨none,0,by rw[h0],by omega,by omega,fun _=>rfl,fun i hi=>absurd hi (by omega)⟩
 ·refine⟨some ⟨g,0,none⟩,cap,rfl,h1,⟨hl,by unfold maxLen at h2;omega⟩,(fun hh=>by cases hh),fun i hi=>⟨g,0,rfl,?_,?_⟩⟩
  ·rcases Nat.lt_or_ge g w.heap.size with h|h
   ·exact h
   ·rw[Array.getElem?_eq_none h]at hg;cases hg
  ·rw[Nat.mul_one,Nat.zero_add];have e1:w.cell? ⟨g,i,none⟩=cur.toList[i]? :=by simp[World.cell?,hg]
   have e2:(cur.toList.take (xs.length*1))[i]? =cur.toList[i]? :=by rw[List.getElem?_take,if_pos (by omega)]
   show w.cell? ⟨g,i,none⟩=_
   rw[e1,←e2,h4,List.getElem?_map,List.getElem?_eq_getElem hi,List.getD_eq_getElem?_getD,List.getElem?_eq_getElem hi];rfl
theorem RowI.nil(w:World)(base:Nat)(e:TypeId)(k:IntKind):RowI w base e k (.slice none 0 0) []:=World.ownsRow_nil w base e 1
theorem RowI.below{w w':World}{base:Nat}{e:TypeId}{k:IntKind}{v:Value}{xs:List Int}(h:RowI w base e k v xs)(hb:Below w.heap.size w w'):RowI w' base e k v xs:=by
 obtain⟨h0,⟨rfl,h1⟩|⟨g,cap,cur,rfl,hb',hg,h1,h2,h3,h4⟩⟩:=h
 ·exact⟨h0,.inl ⟨rfl,h1⟩⟩
 ·refine⟨h0,.inr ⟨g,cap,cur,rfl,hb',?_,h1,h2,h3,h4⟩⟩;have hlt:g<w.heap.size:=by
   rcases Nat.lt_or_ge g w.heap.size with h|h
   ·exact h
   ·rw[Array.getElem?_eq_none h]at hg;cases hg
  rw[←hg];exact hb.block g hlt
theorem RowI.shape{w:World}{base:Nat}{e:TypeId}{k:IntKind}{v:Value}{xs:List Int}(h:RowI w base e k v xs):∃a c,v= .slice a xs.length c:=by
 obtain⟨_,⟨rfl,h1⟩|⟨g,cap,cur,rfl,_⟩⟩:=h
 ·exact⟨none,0,by rw[h1]⟩
 ·exact⟨_,_,rfl⟩
theorem RowI.app{w:World}{base:Nat}{e:TypeId}{k:IntKind}{v:Value}{xs ys zs:List Int}{n:Nat}(h:w.ownsRow base e 1 v n (xs.map (Value.int k)++ys.map (Value.int k)))(hn:n=xs.length+ys.length)(hz:zs=xs++ys):RowI w base e k v zs:=by
 subst hz;subst hn;unfold RowI;rw[List.length_append,List.map_append];exact h
theorem RowI.app1{w:World}{base:Nat}{e:TypeId}{k:IntKind}{v:Value}{l zs:List Int}{y:Int}{j:Nat}(h:w.ownsRow base e 1 v (j+1) (l.map (Value.int k)++[.int k y]))(hl:l.length=j)(hz:zs=l++[y]):RowI w base e k v zs:=
 RowI.app (ys:=[y]) h (by rw[hl];rfl) hz
theorem j8{w:World}{base:Nat}{e:TypeId}{size:Nat}{v:Value}{n:Nat}{xs:List Value}(h:w.ownsRow base e size v n xs):∀k,v.ownBlock=some k→base≤k:=fun k hk=>(h.lt k hk).1
end Go.Proofs.YtdojafpjipcbjaaGreat
namespace Go.Proofs.YtdojafpjipcbjaaGreat
set_option linter.unusedVariables false
set_option linter.unusedSimpArgs false
structure In(C:World→Prop) where
 w:World
 h:C w
section
variable {P : Program} {ops : Array Oper} {md : Region.Mode} {C : World → Prop}
def T2(P:Program)(md:Region.Mode)(ops:Array Oper)(C:World→Prop)(n:Nat)(L:Array Bool→Act→Prop):Nat→Array Bool→Act→Prop
 |0,s,a=>L s a
 |f+1,s,a=>Region.ready md ops s≠[]∧∀i∈Region.ready md ops s,i<n∧qOp P ops C i (T2 P md ops C n L f (s.setIfInBounds i true)) a
theorem A5K{n g:Nat}{L:Array Bool→Act→Prop}{Q:Exit→Act→World→Prop}(hL:∀s a w,C w→L s a→wpAny P md ops Q g s a w)(f:Nat):
  ∀(s:Array Bool) (a:Act) (w:World),C w→T2 P md ops C n L f s a→wpAny P md ops Q (f+g) s a w:=by
 induction f with
 |zero=>intro s a w hw h;rw[Nat.zero_add];exact hL s a w hw h
 |succ f ih=>
  intro s a w hw h;rw[show f+1+g=(f+g)+1 by omega];exact⟨fun h0=>absurd h0 h.1,fun i hi=>wpOp_of_qOp hw (fun a' w' hw' h'=>ih _ a' w' hw' h') (h.2 i hi).2⟩
theorem A2F{n i:Nat}{oi:Oper}{v:Value}{L:Array Bool→Act→Prop}(hi:ops[i]? =some oi)(hsel:∀(j:Nat) (o:Oper) cs b,ops[j]? =some o→o.op≠ .select cs b)
  (hs:Region.sinkB md ops n=true) (hc:Region.chainB md ops n=true) (hn:n<ops.size) (hin:i<n)
  (hdone:∀s a,L s a→∀j∈Region.ready md ops s,n≤j) (f:Nat):
  ∀(s:Array Bool) (a:Act),HeadInv md ops n s→
   (∀j oj,ops[j]? =some oj→j≠i→s.getD j true=false→(∀e∈oj.after,Region.binds md e=true→e.on≠i)→oi.apart ops oj=true)→
   i∈Region.ready md ops s→YieldsIn P ops C oi v a→
   T2 P md ops C n L f (s.setIfInBounds i true) (a.put oi.dst v)→T2 P md ops C n L (f+1) s a:=by
 have low:∀s:Array Bool,HeadInv md ops n s→i∈Region.ready md ops s→∀j∈Region.ready md ops s,j<n:=fun s inv hr j hj=>by
  rcases Nat.lt_or_ge j n with h|h
  ·exact h
  ·exact absurd hj (tail_waits hs hc hn inv _ i rfl hin (mem_ready.1 hr).1 j h)
 induction f with
 |zero=>
  intro s a inv _ hr hy H;refine⟨List.ne_nil_of_mem hr,fun j hj=>⟨low s inv hr j hj,?_⟩⟩;by_cases hji:j=i
  ·subst hji;exact hy.qOp hi H
  ·have h1:=hdone _ _ H j (ready_mono hj hji);have h2:=low s inv hr j hj;omega
 |succ f ih=>
  intro s a inv hfree hr hy H;refine⟨List.ne_nil_of_mem hr,fun j hj=>⟨low s inv hr j hj,?_⟩⟩;by_cases hji:j=i
  ·subst hji;exact hy.qOp hi H
  ·have h1:=(H.2 j (ready_mono hj hji)).2;obtain⟨hjun,oj,hoj,hall⟩:=mem_ready.1 hj;have hnot:∀e∈oj.after,Region.binds md e=true→e.on≠i:=fun e he hb heq=>by
    have h1:=hall e he hb;rw[heq,getD_both (mem_ready.1 hr).1]at h1;cases h1
   have h2:=qOp_put hoj (hfree j oj hoj hji hjun hnot) (fun cs b=>hsel i oi cs b hi) (fun cs b=>hsel j oj cs b hoj) hy h1;refine qOp_mono (fun a' h3=>ih (s.setIfInBounds j true) a' (inv.set hj (low s inv hr j hj)) (fun k ok hk hki hun hno=>?_) (ready_mono hr (Ne.symm hji)) h3.1 ?_) h2
   ·refine hfree k ok hk hki ?_ hno;by_cases hjk:j=k
    ·subst hjk;exact hjun
    ·rw[getD_set_ne true hjk]at hun;exact hun
   ·rw[Array.setIfInBounds_comm _ _ hji];exact h3.2
theorem A5J{n g:Nat}{Lq:Act→Prop}(hsel:Region.noSelect ops=true)(hs:Region.sinkB md ops n=true)(hc:Region.chainB md ops n=true)(hn:n<ops.size)(l:List Oper):
  ∀(k:Nat) (s:Array Bool) (a:Act),(∀j,j<l.length→l[j]? =ops[k+j]?)→k+l.length=n→HeadInv md ops n s→
  Region.lexHead md ops g l.length k s=true→wpQuiet P ops C Lq l a→
  T2 P md ops C n (fun s' a'=>Region.seqB md ops g n s'=true∧Lq a') l.length s a:=by
 induction l with
 |nil=>
  intro k s a _ hk _ hB h;obtain rfl:k=n:=by simpa using hk
  exact⟨by simpa[Region.lexHead]using hB,h⟩
 |cons o l ih=>
  intro k s a hl hk inv hB h;have h0:ops[k]? =some o:=by simpa using(hl 0 (by simp)).symm
  simp only[List.length_cons]at hk;simp only[List.length_cons,Region.lexHead,Bool.and_eq_true]at hB;obtain⟨⟨hr,hf⟩,hB'⟩:=hB;have hr':k∈Region.ready md ops s:=by simpa using hr
  have hq:qOp P ops C k (wpQuiet P ops C Lq l) a:=by unfold qOp;simp only[h0];exact h
  obtain⟨v,hy,hK⟩:=yieldsIn_of_qOp h0 hq;refine A2F h0 (Region.noSelect_spec hsel) hs hc hn (by omega) (fun s' a' hL=>seqB_ready hL.1) l.length s a inv (Region.free_spec h0 hf) hr' hy ?_;exact ih (k+1) _ _ (fun j hj=>by have:=hl (j+1) (by simp;omega);simpa[Nat.add_assoc,Nat.add_comm 1 j]using this) (by omega) (inv.set hr' (by omega)) hB' hK
end
section
variable {P : Program} {C : World → Prop} {id : Nat} {Q : Exit → Act → World → Prop} {a : Act} {w : World} {l : List Oper}
theorem A0k(C:World→Prop)(hm:P.follows .mixedOrders=true)(hB:Region.lexB .any l.toArray=true)(hC:C w.drew)
  (h:wpQuiet P l.toArray (fun w'=>∃s:In C,w'=s.w) (fun a'=>∀w',C w'→Q .normal a' w') l a):(Code.region id l.toArray true).wp P Q a w:=by
 refine wp_region_quiet (C:=fun w'=>∃s:In C,w'=s.w) hm hB ⟨⟨_,hC⟩,rfl⟩ ?_;have e:(fun a'=>∀w',(∃s:In C,w'=s.w)→Q .normal a' w')=fun a'=>∀w',C w'→Q .normal a' w':=by
  funext a'
  apply propext;exact⟨fun h w' hw=>h w' ⟨⟨w',hw⟩,rfl⟩,fun h w' ⟨s,hs⟩=>by rw[hs];exact h s.w s.h⟩
 rw[e];simpa using h
theorem J0(C:World→Prop)(n:Nat)(hm:P.follows .mixedOrders=true)(hB:Region.lexTailB .any l.toArray n=true)(hC:C w.drew)
  (h:wpQuiet P l.toArray (fun w'=>∃s:In C,w'=s.w) (fun a'=>∀w',C w'→wpList P l.toArray Q (l.drop n) a' w') (l.take n) a):(Code.region id l.toArray true).wp P Q a w:=by
 simp only[Region.lexTailB,Bool.and_eq_true,decide_eq_true_eq]at hB;obtain⟨⟨⟨⟨hsel,hn⟩,hs⟩,hc⟩,hlex⟩:=hB;have hn':n<l.length:=by simpa using hn
 have htl:(l.take n).length=n:=by simp;omega
 have hdl:(l.drop n).length=l.toArray.size-n:=by simp
 have inv0:HeadInv .any l.toArray n (Array.replicate l.toArray.size false):=
  ⟨by simp,fun j oj _ hl=>(by rw[getD_replicate_false]at hl;cases hl),fun t _ ht=>getD_in (by simpa using ht) (getD_replicate_false _ _)⟩
 have H:=A5J (md:=.any) (g:=l.toArray.size-n) hsel hs hc hn (l.take n) 0 _ a (fun j hj=>by
  have hj':j<n:=by rw[htl]at hj;exact hj
  simp[hj']) (by simpa using htl) inv0 (by rw[htl];exact hlex) h
 have R:=A5K (Q:=Q) (g:=l.toArray.size-n) (fun s a' w' hw' hL=>by
  obtain⟨x,rfl⟩:=hw';have:=wpAny_of_seq (md:=.any) (Q':=Q) (l.drop n) n s a' x.w (fun j=>by simp[List.getElem?_drop]) (by rw[hdl];exact hL.1) (hL.2 x.w x.h);rwa[hdl]at this) _ _ _ w.drew ⟨⟨_,hC⟩,rfl⟩ H
 refine wp_region_any hm ?_;rw[htl,show n+(l.toArray.size-n)=l.toArray.size by omega]at R;exact R
end
theorem Calls.calm{P:Program}{C:World→Prop}{f:FuncId}{args:Array Value}{s:In C}{v:Value}{R:World→Prop}(h:Calls P f args s.w fun e w'=>e= .returned v∧R w')(hR:∀w',R w'→C w'):
  Calls P f args s.w fun e w''=>e= .returned v∧∃t:In C,w''=t.w:=
 h.mono fun _ w' ⟨he,hr⟩=>⟨he,⟨⟨w',hR w' hr⟩,rfl⟩⟩
end Go.Proofs.YtdojafpjipcbjaaGreat
namespace Go.Proofs.YtdojafpjipcbjaaGreat
open Go.RowKit
set_option linter.unusedVariables false
set_option linter.unusedSimpArgs false
theorem U6{k:IntKind}{a b:Int}(h:a=b):Ending.returned (.int k a)= .returned (.int k b):=by rw[h]
theorem S6{a b:Bool}(h:a=b):Ending.returned (.bool a)= .returned (.bool b):=by rw[h]
def Dr(w w':World):Prop:=∃n,w'=w.drewN n
theorem Dr.refl(w:World):Dr w w:=⟨0,rfl⟩
theorem Dr.drew{w w':World}(h:Dr w w')(n:Nat):Dr w (w'.drewN n):=by
 obtain⟨m,rfl⟩:=h;exact⟨m+n,World.drewN_drewN _ _ _⟩
theorem Dr.below{w w':World}(h:Dr w w')(B:Nat):Below B w w':=by
 obtain⟨n,rfl⟩:=h;exact⟨rfl,rfl,rfl,Nat.le_refl _,fun _ _=>rfl⟩
theorem Dr.trans{w w' w'':World}(h:Dr w w')(h':Dr w' w''):Dr w w'':=by
 obtain⟨m,rfl⟩:=h';exact h.drew m
theorem B8{P:Program}{f:FuncId}{args:Array Value}{w:World}{n:Nat}{v:Value}(h:Calls P f args (w.drewN n) fun e w'=>e= .returned v∧w.drewN n=w'):
  Calls P f args (w.drewN n) fun e w''=>e= .returned v∧∃m,w''=w.drewN m:=h.mono fun _ _ ⟨he,hm⟩=>⟨he,n,hm.symm⟩
def Since(w0 w:World):Prop:=Below w0.heap.size w0 w
theorem Since.refl(w:World):Since w w:=Below.refl _ _
theorem Since.drewN{w0 w:World}(h:Since w0 w)(n:Nat):Since w0 (w.drewN n):=A9 h n
theorem P7{w wk:World}{cs:Array Value}{T:TypeId}(i:Nat)(hb:Since (w.alloc (.cells cs T)) wk):wk.cell? ⟨w.heap.size,i,none⟩=cs[i]? :=A0 hb i
theorem Since.drew{w0 w:World}(h:Since w0 w):Since w0 w.drew:=Below.drew h
theorem Since.dr{w0 w w':World}(h:Since w0 w)(hd:Dr w w'):Since w0 w':=A2 h (hd.below _)
theorem Since.next{w0 w w':World}(h:Since w0 w)(hb:Below w.heap.size w w'):Since w0 w':=A2 h hb
theorem Since.cell{w0 w:World}(h:Since w0 w){b o:Nat}{v:Value}(hc:w0.cell? ⟨b,o,none⟩=some v):w.cell? ⟨b,o,none⟩=some v:=H4 h (F0 hc) hc
theorem Since.free{w0 w:World}(h:Since w0 w){b o:Nat}(hb:b<w0.heap.size)(hf:w0.frozen? ⟨b,o,none⟩=false):w.frozen? ⟨b,o,none⟩=false:=by rw[←hf];exact Below.frozen (p:=⟨b,o,none⟩) h hb
theorem F1{w:World}{ob:Obj}{b o:Nat}{v:Value}(h:w.cell? ⟨b,o,none⟩=some v):(w.alloc ob).cell? ⟨b,o,none⟩=some v:=H4 ((Below.refl _ _).alloc (Nat.le_refl _) _) (F0 h) h
theorem J1{w:World}{B j b o:Nat}{u v:Value}(h:w.cell? ⟨b,o,none⟩=some v)(hne:¬(b=B∧o=j)):(w.setCell ⟨B,j,none⟩ u).cell? ⟨b,o,none⟩=some v:=by
 rw[World.cell?_setCell_other _ _ _ _ (by intro e;cases e;exact hne ⟨rfl,rfl⟩)];exact h
theorem getD_set_ne{l:List Int}{k j:Nat}{x:Int}(h:k≠j):(l.set k x).getD j 0=l.getD j 0:=by
 rw[List.getD_eq_getElem?_getD,List.getD_eq_getElem?_getD,List.getElem?_set_ne h]
theorem l5{xs ys:List Int}{i:Nat}(h:i<xs.length):(xs++ys).getD i 0=xs.getD i 0:=by
 rw[List.getD_eq_getElem?_getD,List.getD_eq_getElem?_getD,List.getElem?_append_left h]
theorem Ints.nil(k:IntKind)(w:World):Ints k w (.slice none 0 0) []:=⟨none,0,rfl,Nat.le_refl _,⟨by simp,by omega⟩,fun _=>rfl,fun i hi=>absurd hi (by simp)⟩
theorem Ints.at{k:IntKind}{w:World}{v:Value}{xs:List Int}(h:Ints k w v xs){j:Nat}(hj:j<xs.length):∃b q c,v= .slice (some ⟨b,q,none⟩) xs.length c∧xs.length≤c∧b<w.heap.size∧w.cell? ⟨b,q+j,none⟩=some (.int k (xs.getD j 0)):=by
 obtain⟨a,c,rfl,h1,h2,_,h4⟩:=h;obtain⟨b,q,rfl,h5,h6⟩:=h4 j hj;rw[Nat.mul_one]at h6;exact⟨b,q,c,rfl,h1,h5,h6⟩
theorem Ints.shape{k:IntKind}{w:World}{v:Value}{xs:List Int}(h:Ints k w v xs):∃a c,v= .slice a xs.length c∧xs.length≤c∧xs.length≤140737488351232:=by
 obtain⟨a,c,rfl,h1,h2,_⟩:=h;exact⟨a,c,rfl,h1,h2.1⟩
theorem Ints.row{k:IntKind}{w:World}{a:Option Addr}{n c:Nat}{xs:List Int}(h:Ints k w (.slice a n c) xs)(h0:0<xs.length):∃b o,a=some ⟨b,o,none⟩∧b<w.heap.size∧∀i,i<xs.length→w.cell? ⟨b,o+i,none⟩=some (.int k (xs.getD i 0)):=by
 obtain⟨a',c',e,_,_,_,hc⟩:=h;cases e;obtain⟨b,o,rfl,hb,_⟩:=hc 0 h0;refine⟨b,o,rfl,hb,fun i hi=>?_⟩;obtain⟨b',o',e2,_,hd⟩:=hc i hi;cases e2;rw[Nat.mul_one]at hd;exact hd
def OInts(k:IntKind)(w:World)(B:Nat)(xs:List Int):Prop:=
 B<w.heap.size∧∀i,i<xs.length→w.cell? ⟨B,i,none⟩=some (.int k (xs.getD i 0))∧w.frozen? ⟨B,i,none⟩=false
theorem OInts.cell{k:IntKind}{w:World}{B:Nat}{xs:List Int}(h:OInts k w B xs){i:Nat}(hi:i<xs.length):w.cell? ⟨B,i,none⟩=some (.int k (xs.getD i 0)):=(h.2 i hi).1
theorem OInts.free{k:IntKind}{w:World}{B:Nat}{xs:List Int}(h:OInts k w B xs){i:Nat}(hi:i<xs.length):w.frozen? ⟨B,i,none⟩=false:=(h.2 i hi).2
theorem OInts.below{k:IntKind}{w w':World}{B:Nat}{xs:List Int}(h:OInts k w B xs)(hb:Below w.heap.size w w'):OInts k w' B xs:=
 ⟨Nat.lt_of_lt_of_le h.1 hb.size,fun i hi=>⟨by rw[←h.cell hi];exact hb.cell (p:=⟨B,i,none⟩) h.1,by rw[←h.free hi];exact hb.frozen (p:=⟨B,i,none⟩) h.1⟩⟩
theorem OInts.alloc{k:IntKind}{w:World}{B:Nat}{xs:List Int}(h:OInts k w B xs)(ob:Obj):OInts k (w.alloc ob) B xs:=h.below ((Below.refl _ _).alloc (Nat.le_refl _) _)
theorem OInts.drewN{k:IntKind}{w:World}{B:Nat}{xs:List Int}(h:OInts k w B xs)(n:Nat):OInts k (w.drewN n) B xs:=h
theorem OInts.set{k:IntKind}{w:World}{B:Nat}{xs:List Int}(h:OInts k w B xs){i:Nat}(hi:i<xs.length)(x:Int):OInts k (w.setCell ⟨B,i,none⟩ (.int k x)) B (xs.set i x):=by
 refine⟨by simpa using h.1,fun j hj=>?_⟩;rw[List.length_set]at hj;refine⟨?_,by rw[World.frozen?_setCell];exact h.free hj⟩;by_cases e:i=j
 ·subst e;rw[World.cell?_setCell_same _ _ _ (h.cell hi),List.getD_eq_getElem?_getD,List.getElem?_set_self hi];rfl
 ·rw[World.cell?_setCell_other _ _ _ _ (by intro hh;cases hh;exact e rfl),h.cell hj,List.getD_eq_getElem?_getD,List.getD_eq_getElem?_getD,List.getElem?_set_ne e]
theorem OInts.ints{k:IntKind}{w:World}{B:Nat}{xs:List Int}(h:OInts k w B xs)(hl:xs.length≤140737488351232):Ints k w (.slice (some ⟨B,0,none⟩) xs.length xs.length) xs:=
 ⟨some ⟨B,0,none⟩,xs.length,rfl,Nat.le_refl _,⟨hl,by omega⟩,(fun hh=>by cases hh),fun i hi=>⟨B,0,rfl,h.1,by rw[Nat.mul_one,Nat.zero_add];exact h.cell hi⟩⟩
theorem Ints.newsK{k:IntKind}{w:World}{ad:Addr}{n c:Nat}{xs:List Int}(h:Ints k w (.slice (some ad) n c) xs):∀(j:Nat) (u:Value),(xs.map (Value.int k))[j]? =some u→w.cell? (ad.add j)=some u:=by
 intro j u hu;rw[List.getElem?_map]at hu;cases e:xs[j]? with
 |none=>rw[e]at hu;cases hu
 |some y=>
  rw[e]at hu;cases hu;have hj:j<xs.length:=by
   rcases Nat.lt_or_ge j xs.length with h|h
   ·exact h
   ·rw[List.getElem?_eq_none h]at e;cases e
  obtain⟨a,c',e',_,_,_,h4⟩:=h;cases e';obtain⟨b',o',e',h5,h6⟩:=h4 j hj;cases e';rw[Nat.mul_one,List.getD_eq_getElem?_getD,e]at h6;by_cases hj0:j=0
  ·subst hj0;exact h6
  ·simpa[Addr.add,hj0]using h6
end Go.Proofs.YtdojafpjipcbjaaGreat
namespace Go.Proofs.YtdojafpjipcbjaaGreat
set_option linter.unusedVariables false
set_option linter.unusedSimpArgs false
structure Ins where
 o:Int
 d:Int
 s:Int
 z:Int
 i:Int
 deriving DecidableEq,Inhabited
def leB(n:Int):Nat→List Int
 |0=>[]
 |k+1=>n%256::leB (n / 256) k
def rdB:List Int→Nat→Int
 |_,0=>0
 |[],_+1=>0
 |b::r,k+1=>b+256*rdB r k
theorem A3(n:Int)(k:Nat):(leB n k).length=k:=by
 induction k generalizing n with
 |zero=>rfl
 |succ k ih=>simp[leB,ih]
theorem x9(n:Int)(k:Nat)(r:List Int):rdB (leB n k++r) k=n%256^k:=by
 induction k generalizing n with
 |zero=>simp[rdB,Int.emod_one]
 |succ k ih=>
  show n%256+256*rdB (leB (n / 256) k++r) k=_
  rw[ih];have hp:(0:Int)<256^k:=Int.pow_pos (by decide);have e:(256:Int)^(k+1)=256*256^k:=by rw[Int.pow_succ,Int.mul_comm]
  rw[e];have h1:=Int.emod_add_mul_ediv (n / 256) (256^k);have h2:=Int.emod_add_mul_ediv n 256;have h3:=Int.emod_nonneg (n / 256) (by omega:(256:Int)^k≠0);have h4:=Int.emod_lt_of_pos (n / 256) hp;have h5:=Int.emod_nonneg n (by decide:(256:Int)≠0);have h6:=Int.emod_lt_of_pos n (show(0:Int)<256 by decide);generalize n / 256=q at*
  have e2:n=(n%256+256*(q%256^k))+(256*256^k)*(q / 256^k):=by
   have:(256*256^k)*(q / 256^k)=256*(256^k*(q / 256^k)):=by rw[Int.mul_assoc]
   rw[this];omega
  generalize n%256=m at*
  generalize q%256^k=t at*
  generalize q / 256^k=u at*
  rw[e2,Int.add_mul_emod_self_left];refine(Int.emod_eq_of_lt (by omega) ?_).symm;have:256*t+256≤256*256^k:=by omega
  omega
def mrB(r m:Int):Int:=(192+8*r+m)%256
def mmB(r m i:Int):List Int:=(128+8*r+m)%256::leB i 4
def pwZ(z:Int):Int:=2^z.toNat
def sgB(n z:Int):Int:=if 2^(z.toNat-1)≤n then n-pwZ z else n
def isR(n:Int):Bool:=decide (0≤n)&&decide (n≤7)
def isL(n:Int):Bool:=decide (0≤n)&&decide (n≤3)
def isM(n:Int):Bool:=isR n&&(n !=4)
def isC(n:Int):Bool:=decide (0≤n)&&(decide (n≤15)&&(n !=10&&n !=11))
def isB(n:Int):Bool:=decide (-128≤n)&&decide (n≤127)
def C9(n:Int):Bool:=decide (-2147483648≤n)&&decide (n≤2147483647)
def inZ(n z:Int):Bool:=decide (0≤n)&&decide (n≤pwZ z-1)
def M7(o:Int):Int:=
 if o=14 then 0 else if o=15 then 1 else if o=16∨o=21 then 4 else if o=17∨o=22 then 5 else if o=18∨o=26 then 6
 else if o=19∨o=23∨o=27 then 7 else if o=24 then 2 else if o=25 then 3 else -1
def N7(o:Int):Int:=
 if o=7 then 1 else if o=8 then 9 else if o=9 then 33 else if o=10 then 41 else if o=11 then 49 else if o=12 then 57 else if o=13 then 133 else 0
def szI(o:Int):List Int:=
 if 0≤o∧o≤3 then[32,16]else if 4≤o∧o≤6 then[32]else if 7≤o∧o≤19 then[32,16]else if o=20 then[32]
 else if 21≤o∧o≤25 then[32,16]else if 26≤o∧o≤31 then[32]else if o=32∨o=33 then[8,32]else if 34≤o∧o≤36 then[32]else[]
def D9(x:Ins):Bool:=(x.z==8&&isB x.i)||(x.z==32&&C9 x.i)
def D2(x:Ins):Bool:=
 if x.o=0∨(7≤x.o∧x.o≤13)∨x.o=20 then isR x.d&&(isR x.s&&x.i==0)
 else if x.o=1∨(14≤x.o∧x.o≤19)then isR x.d&&(x.s==0&&inZ x.i x.z)
 else if x.o=2∨x.o=4∨x.o=5 then isR x.d&&(isM x.s&&C9 x.i)
 else if x.o=3 then isM x.d&&(isR x.s&&C9 x.i)
 else if x.o=6 then isM x.d&&(isL x.s&&C9 x.i)
 else if 21≤x.o∧x.o≤27 then isR x.d&&(x.s==0&&x.i==0)
 else if x.o=28∨x.o=34∨x.o=35∨x.o=36 then x.d==0&&(x.s==0&&x.i==0)
 else if x.o=29 then isL x.d&&(isC x.s&&x.i==0)
 else if x.o=30 then isR x.d&&(isL x.s&&x.i==0)
 else if x.o=31 then isR x.d&&(isR x.s&&isC x.i)
 else if x.o=32 then x.d==0&&(isC x.s&&D9 x)
 else if x.o=33 then x.d==0&&(x.s==0&&D9 x)
 else false
def okI(x:Ins):Bool:=(szI x.o).contains x.z&&D2 x
def A5(x:Ins):List Int:=
 if x.o=0 then[137,mrB x.s x.d]
 else if x.o=1 then(184+x.d)%256::leB x.i (x.z / 8).toNat
 else if x.o=2 then 139::mmB x.d x.s x.i
 else if x.o=3 then 137::mmB x.s x.d x.i
 else if x.o=4 then 15::182::mmB x.d x.s x.i
 else if x.o=5 then 15::183::mmB x.d x.s x.i
 else if x.o=6 then 136::mmB x.s x.d x.i
 else if 7≤x.o∧x.o≤13 then[N7 x.o,mrB x.s x.d]
 else if 14≤x.o∧x.o≤19 then(if -128≤sgB x.i x.z∧sgB x.i x.z≤127 then[131,mrB (M7 x.o) x.d,x.i%256]else 129::mrB (M7 x.o) x.d::leB x.i (x.z / 8).toNat)
 else if x.o=20 then[15,175,mrB x.d x.s]
 else if 21≤x.o∧x.o≤23 then[211,mrB (M7 x.o) x.d]
 else if 24≤x.o∧x.o≤27 then[247,mrB (M7 x.o) x.d]
 else if x.o=28 then[153]
 else if x.o=29 then[15,(144+x.s)%256,mrB 0 x.d]
 else if x.o=30 then[15,182,mrB x.d x.s]
 else if x.o=31 then[15,(64+x.i)%256,mrB x.d x.s]
 else if x.o=32 then(if x.z=8 then[(112+x.s)%256,x.i%256]else 15::(128+x.s)%256::leB x.i 4)
 else if x.o=33 then(if x.z=8 then[235,x.i%256]else 233::leB x.i 4)
 else if x.o=34 then[244]
 else if x.o=35 then[15,11]
 else if x.o=36 then[144]
 else[]
def H7(x:Ins):List Int:=if x.z=16 then 102::A5 x else A5 x
/-! ### reading -/
def sg8(n:Int):Int:=if 128≤n then n-256 else n
def D8(n:Int):Int:=if 2147483648≤n then n-4294967296 else n
def H5(c:Int):Int:=
 if c=1 then 7 else if c=9 then 8 else if c=33 then 9 else if c=41 then 10 else if c=49 then 11 else if c=57 then 12 else if c=133 then 13
 else if c=144 then 36 else if c=153 then 28 else if c=244 then 34 else -1
def B7(c r:Int):Int:=
 if c=129∨c=131 then(if r=0 then 14 else if r=1 then 15 else if r=4 then 16 else if r=5 then 17 else if r=6 then 18 else if r=7 then 19 else -1)
 else if c=211 then(if r=4 then 21 else if r=5 then 22 else if r=7 then 23 else -1)
 else(if r=2 then 24 else if r=3 then 25 else if r=6 then 26 else if r=7 then 27 else -1)
def rF(m:Int):Int:=m / 8%8
def mF(m:Int):Int:=m%8
def P4(c:List Int)(z:Int):Ins×Nat:=
 if c.getD 1 0=11 then(⟨35,0,0,z,0⟩,2)
 else if c.getD 1 0=175 then(⟨20,rF (c.getD 2 0),mF (c.getD 2 0),z,0⟩,3)
 else if c.getD 1 0=182∨c.getD 1 0=183 then
  (if c.getD 2 0 / 64=2 then(⟨c.getD 1 0-178,rF (c.getD 2 0),mF (c.getD 2 0),z,D8 (rdB (c.drop 3) 4)⟩,7)else(⟨30,rF (c.getD 2 0),mF (c.getD 2 0),z,0⟩,3))
 else if 64≤c.getD 1 0∧c.getD 1 0≤79 then(⟨31,rF (c.getD 2 0),mF (c.getD 2 0),z,c.getD 1 0-64⟩,3)
 else if 144≤c.getD 1 0∧c.getD 1 0≤159 then(⟨29,mF (c.getD 2 0),c.getD 1 0-144,z,0⟩,3)
 else if 128≤c.getD 1 0∧c.getD 1 0≤143 then(⟨32,0,c.getD 1 0-128,z,D8 (rdB (c.drop 2) 4)⟩,6)
 else(⟨-1,0,0,z,0⟩,2)
def K7(c:List Int)(z:Int):Ins×Nat:=
 if c.getD 1 0 / 64=2 then
  (if c.getD 0 0=139 then(⟨2,rF (c.getD 1 0),mF (c.getD 1 0),z,D8 (rdB (c.drop 2) 4)⟩,6)
  else if c.getD 0 0=137 then(⟨3,mF (c.getD 1 0),rF (c.getD 1 0),z,D8 (rdB (c.drop 2) 4)⟩,6)
  else(⟨6,mF (c.getD 1 0),rF (c.getD 1 0),z,D8 (rdB (c.drop 2) 4)⟩,6))
 else(⟨0,mF (c.getD 1 0),rF (c.getD 1 0),z,0⟩,2)
def U3(c:List Int)(z:Int):Ins×Nat:=
 if c.getD 0 0=129 then(⟨B7 (c.getD 0 0) (rF (c.getD 1 0)),(if 0≤B7 (c.getD 0 0) (rF (c.getD 1 0))then mF (c.getD 1 0)else 0),0,z,rdB (c.drop 2) (z / 8).toNat⟩,2+(z / 8).toNat)
 else if c.getD 0 0=131 then(⟨B7 (c.getD 0 0) (rF (c.getD 1 0)),(if 0≤B7 (c.getD 0 0) (rF (c.getD 1 0))then mF (c.getD 1 0)else 0),0,z,sg8 (c.getD 2 0)%pwZ z⟩,3)
 else(⟨B7 (c.getD 0 0) (rF (c.getD 1 0)),(if 0≤B7 (c.getD 0 0) (rF (c.getD 1 0))then mF (c.getD 1 0)else 0),0,z,0⟩,2)
def gsP(c:List Int)(z:Int):Ins×Nat:=
 if 0≤H5 (c.getD 0 0)then(if c.getD 0 0<144 then(⟨H5 (c.getD 0 0),mF (c.getD 1 0),rF (c.getD 1 0),z,0⟩,2)else(⟨H5 (c.getD 0 0),0,0,z,0⟩,1))
 else if c.getD 0 0=137∨c.getD 0 0=136∨c.getD 0 0=139 then K7 c z
 else if 184≤c.getD 0 0∧c.getD 0 0≤191 then(⟨1,c.getD 0 0-184,0,z,rdB (c.drop 1) (z / 8).toNat⟩,1+(z / 8).toNat)
 else if c.getD 0 0=129∨c.getD 0 0=131∨c.getD 0 0=211∨c.getD 0 0=247 then U3 c z
 else if 112≤c.getD 0 0∧c.getD 0 0≤127 then(⟨32,0,c.getD 0 0-112,8,sg8 (c.getD 1 0)⟩,2)
 else if c.getD 0 0=235 then(⟨33,0,0,8,sg8 (c.getD 1 0)⟩,2)
 else if c.getD 0 0=233 then(⟨33,0,0,z,D8 (rdB (c.drop 1) 4)⟩,5)
 else if c.getD 0 0=15 then P4 c z
 else(⟨-1,0,0,z,0⟩,1)
def N1(b:List Int):Nat:=if b.getD 0 0=102 then 1 else 0
def O1(b:List Int):Int:=if b.getD 0 0=102 then 16 else 32
def S5(b:List Int):Option (Ins×Nat):=
 if(N1 b+(gsP (b.drop (N1 b)) (O1 b)).2≤b.length∧okI (gsP (b.drop (N1 b)) (O1 b)).1=true)∧H7 (gsP (b.drop (N1 b)) (O1 b)).1=b.take (N1 b+(gsP (b.drop (N1 b)) (O1 b)).2)then
  some ((gsP (b.drop (N1 b)) (O1 b)).1,N1 b+(gsP (b.drop (N1 b)) (O1 b)).2)else none
def nmR(c:List Int)(n k:Nat):Int:=if n+k≤c.length then rdB (c.drop n) k else 0
def L3(c:Int):Int:=
 if c=1 then 7 else if c=9 then 8 else if c=33 then 9 else if c=41 then 10 else if c=49 then 11 else if c=57 then 12 else if c=133 then 13 else if c=137 then 0 else -1
def O2(c:List Int):Ins:=
 if nmR c 1 1=11 then⟨35,0,0,32,0⟩
 else if nmR c 1 1=175 then⟨20,rF (nmR c 2 1),mF (nmR c 2 1),32,0⟩
 else if nmR c 1 1=182∧192≤nmR c 2 1 then⟨30,rF (nmR c 2 1),mF (nmR c 2 1),32,0⟩
 else if nmR c 1 1=182 then⟨4,rF (nmR c 2 1),mF (nmR c 2 1),32,D8 (nmR c 3 4)⟩
 else if nmR c 1 1=183 then⟨5,rF (nmR c 2 1),mF (nmR c 2 1),32,D8 (nmR c 3 4)⟩
 else if 144≤nmR c 1 1∧nmR c 1 1≤159 then⟨29,mF (nmR c 2 1),nmR c 1 1-144,32,0⟩
 else if 64≤nmR c 1 1∧nmR c 1 1≤79 then⟨31,rF (nmR c 2 1),mF (nmR c 2 1),32,nmR c 1 1-64⟩
 else if 128≤nmR c 1 1∧nmR c 1 1≤143 then⟨32,0,nmR c 1 1-128,32,D8 (nmR c 2 4)⟩
 else⟨-1,0,0,0,0⟩
def gsR(c:List Int)(z:Int):Ins:=
 if c.length=0 then⟨-1,0,0,0,0⟩
 else if nmR c 0 1=15 then O2 c
 else if nmR c 0 1=137∧128≤nmR c 1 1∧nmR c 1 1<192 then⟨3,mF (nmR c 1 1),rF (nmR c 1 1),z,D8 (nmR c 2 4)⟩
 else if nmR c 0 1=139 then⟨2,rF (nmR c 1 1),mF (nmR c 1 1),z,D8 (nmR c 2 4)⟩
 else if nmR c 0 1=136 then⟨6,mF (nmR c 1 1),rF (nmR c 1 1),z,D8 (nmR c 2 4)⟩
 else if 0≤L3 (nmR c 0 1)then⟨L3 (nmR c 0 1),mF (nmR c 1 1),rF (nmR c 1 1),z,0⟩
 else if 184≤nmR c 0 1∧nmR c 0 1≤191 then⟨1,nmR c 0 1-184,0,z,nmR c 1 (z / 8).toNat⟩
 else if nmR c 0 1=131 then⟨B7 131 (rF (nmR c 1 1)),mF (nmR c 1 1),0,z,sg8 (nmR c 2 1)%pwZ z⟩
 else if nmR c 0 1=129 then⟨B7 129 (rF (nmR c 1 1)),mF (nmR c 1 1),0,z,nmR c 2 (z / 8).toNat⟩
 else if nmR c 0 1=211 then⟨B7 211 (rF (nmR c 1 1)),mF (nmR c 1 1),0,z,0⟩
 else if nmR c 0 1=247 then⟨B7 247 (rF (nmR c 1 1)),mF (nmR c 1 1),0,z,0⟩
 else if 112≤nmR c 0 1∧nmR c 0 1≤127 then⟨32,0,nmR c 0 1-112,8,sg8 (nmR c 1 1)⟩
 else if nmR c 0 1=235 then⟨33,0,0,8,sg8 (nmR c 1 1)⟩
 else if nmR c 0 1=233 then⟨33,0,0,32,D8 (nmR c 1 4)⟩
 else if nmR c 0 1=153 then⟨28,0,0,z,0⟩
 else if nmR c 0 1=244 then⟨34,0,0,z,0⟩
 else if nmR c 0 1=144 then⟨36,0,0,z,0⟩
 else⟨-1,0,0,0,0⟩
def A2E(b:List Int):Option (Ins×Nat):=
 if okI (gsR (b.drop (N1 b)) (O1 b))=true∧H7 (gsR (b.drop (N1 b)) (O1 b))<+:b then some (gsR (b.drop (N1 b)) (O1 b),(H7 (gsR (b.drop (N1 b)) (O1 b))).length)else none
end Go.Proofs.YtdojafpjipcbjaaGreat
namespace Go.Proofs.YtdojafpjipcbjaaGreat
open Go.RowKit
set_option linter.unusedVariables false
set_option linter.unusedSimpArgs false
theorem A4W{p:Prop}(h:p:=by
 go_enter func115,ntmps115
 go_wp2
 go_ret;exact⟨S6 (by first|rfl|(simp only[Bool.true_and];congr 1;simp;omega)),rfl⟩
 ):p:=h
theorem G8(n:Int)(w:World):Calls prog 120 #[.int .i64 n] w fun e w'=>e= .returned (.bool (isR n))∧w=w':=by
 unfold isR;cases h1:decide (0≤n)
 all_goals
  go_enter func120,ntmps120
  go_wp2
  go_ret;exact⟨rfl,rfl⟩
theorem b5(n:Int)(w:World):Calls prog 126 #[.int .i64 n] w fun e w'=>e= .returned (.bool (isL n))∧w=w':=by
 unfold isL;cases h1:decide (0≤n)
 all_goals
  go_enter func126,ntmps126
  go_wp2
  go_ret;exact⟨rfl,rfl⟩
theorem V4(n:Int)(w:World):Calls prog 134 #[.int .i64 n] w fun e w'=>e= .returned (.bool (isC n))∧w=w':=by
 unfold isC;cases h1:decide (0≤n)<;>cases h2:decide (n≤15)<;>cases h3:(n !=10)
 all_goals
  go_enter func134,ntmps134
  go_wp2
  go_ret;exact⟨rfl,rfl⟩
theorem I4(n a b:Int)(w:World):Calls prog 121 #[.int .i64 n,.int .i64 a,.int .i64 b] w fun e w'=>e= .returned (.bool (decide (a≤n)&&decide (n≤b)))∧w=w':=by
 cases h1:decide (a≤n)
 all_goals
  go_enter func121,ntmps121
  go_wp2
  go_ret;exact⟨rfl,rfl⟩
theorem K9(n:Int)(w:World):Calls prog 166 #[.int .i64 n] w fun e w'=>e= .returned (.bool (C9 n))∧w=w':=by
 unfold C9;go_enter func166,ntmps166;go_wp2_with(go_at_call 121;refine(I4 _ _ _ _).mono ?_;rintro e w' ⟨rfl,rfl⟩)
 go_ret;exact⟨rfl,rfl⟩
theorem R2(n:Int)(w:World):Calls prog 165 #[.int .i64 n] w fun e w'=>e= .returned (.bool (isM n))∧w=w':=by
 unfold isM;have C:=hid (G8 n w);cases h1:isR n<;>rw[h1]at C
 all_goals
  go_enter func165,ntmps165;go_wp2_with(go_at_call 120;refine C.out.mono ?_;rintro e w' ⟨rfl,rfl⟩)
  go_ret;exact⟨rfl,rfl⟩
def I64(n:Int):Prop:= -9223372036854775808≤n∧n≤9223372036854775807
theorem P6(r m:Int)(w:World):Calls prog 130 #[.int .i64 r,.int .i64 m] w fun e w'=>e= .returned (.int .u8 (mrB r m))∧w=w':=by
 go_enter func130,ntmps130
 go_wp2
 go_ret;exact⟨U6 (by unfold mrB wrap64;omega),rfl⟩
theorem O3(r m:Int)(w:World):Calls prog 157 #[.int .i64 r,.int .i64 m] w fun e w'=>e= .returned (.int .u8 (mrB r m))∧w=w':=by
 go_enter func157,ntmps157
 go_wp2
 go_ret;exact⟨U6 (by unfold mrB wrap64;omega),rfl⟩
theorem B9(n:Int)(w:World):Calls prog 156 #[.int .i64 n] w fun e w'=>e= .returned (.bool (isR n))∧w=w':=by
 unfold isR;cases h1:decide (0≤n)
 all_goals
  go_enter func156,ntmps156
  go_wp2
  go_ret;exact⟨rfl,rfl⟩
theorem y7(n:Int)(w:World):Calls prog 160 #[.int .i64 n] w fun e w'=>e= .returned (.bool (isL n))∧w=w':=by
 unfold isL;cases h1:decide (0≤n)
 all_goals
  go_enter func160,ntmps160
  go_wp2
  go_ret;exact⟨rfl,rfl⟩
theorem R3(n:Int)(w:World):Calls prog 161 #[.int .i64 n] w fun e w'=>e= .returned (.bool (isC n))∧w=w':=by
 unfold isC;cases h1:decide (0≤n)<;>cases h2:decide (n≤15)<;>cases h3:(n !=10)
 all_goals
  go_enter func161,ntmps161
  go_wp2
  go_ret;exact⟨rfl,rfl⟩
theorem Y5(n z:Int)(w:World)(hz:z=8∨z=16∨z=32):Calls prog 158 #[.int .i64 n,.int .i64 z] w fun e w'=>e= .returned (.bool (inZ n z))∧w=w':=by
 rcases hz with rfl|rfl|rfl
 all_goals
  unfold inZ;cases h1:decide (0≤n)
  all_goals
   go_enter func158,ntmps158
   go_wp2
   go_ret;exact⟨S6 (by first|rfl|(simp only[Bool.true_and,pwZ];congr 1;simp;omega)),rfl⟩
theorem t5(n:Int)(w:World):Calls prog 115 #[.int .i64 n,.int .i64 8] w fun e w'=>e= .returned (.bool (isB n))∧w=w':=by
 unfold isB;cases h1:decide (-128≤n)
 all_goals
  exact A4W
theorem F7(n:Int)(w:World):Calls prog 115 #[.int .i64 n,.int .i64 32] w fun e w'=>e= .returned (.bool (C9 n))∧w=w':=by
 unfold C9;cases h1:decide (-2147483648≤n)
 all_goals
  exact A4W
theorem B1A{p:Prop}(h:p:=by
 intro v' w1 hown' hgrow _;have HO:=hid hown';have HG:=hid hgrow;clear hown' hgrow;go_wp2_with fail
 go_roundw
 case rel=>exact⟨j+1,by omega,by rw[HT.out],by go_num,RowI.app1 HO.out HTL.out HS.out,(HB.out.alloc (by omega) _).grown HG.out (by simp;omega) (j8 HO0.out)⟩
 case measure=>simp[intOf];omega
 ):p:=h
theorem L6(n c:Int)(k:Nat)(hk:k≤62)(hc:c=2^k-1):bits .and .i64 n c=n%2^k:=by
 have hp:(2:Nat)^k≤2^62:=Nat.pow_le_pow_right (by decide) hk;have hp0:0<(2:Nat)^k:=Nat.two_pow_pos k;have e:((2:Int)^k)=((2^k:Nat):Int):=by simp
 rw[e]at hc⊢;have hm:(BitVec.ofInt 64 c).toNat=2^k-1:=by
  rw[BitVec.toNat_ofInt,hc];generalize(2:Nat)^k=p at*
  have:((p:Int)-1)%((2^64:Nat):Int)=(p:Int)-1:=Int.emod_eq_of_lt (by omega) (by omega);rw[this];omega
 have key:(BitVec.ofInt 64 n&&&BitVec.ofInt 64 c).toNat=(n%((2^64:Nat):Int)).toNat%2^k:=by
  rw[BitVec.toNat_and,BitVec.toNat_ofInt,hm,Nat.and_two_pow_sub_one_eq_mod]
 show IntKind.i64.wrap ((BitVec.ofInt 64 n&&&BitVec.ofInt 64 c).toNat:Nat)=_
 rw[key,IntKind.wrap_i64];have hd:(2:Nat)^k∣2^64:=Nat.pow_dvd_pow 2 (by omega);have h1:=Nat.mod_lt (n%((2^64:Nat):Int)).toNat hp0;have h2:((((n%((2^64:Nat):Int)).toNat%2^k:Nat)):Int)=n%((2^k:Nat):Int):=by
  rw[Int.natCast_emod,Int.toNat_of_nonneg (Int.emod_nonneg _ (by decide)),Int.emod_emod_of_dvd _ (Int.natCast_dvd_natCast.2 hd)]
 rw[←h2];generalize(n%((2^64:Nat):Int)).toNat%2^k=t at*
 omega
theorem I1(n:Int):bits .and .i64 n 255=n%256:=L6 n 255 8 (by decide) rfl
theorem G4:(prog.info? 5).map (fun i=>(i.zero,i.size,i.bytes))=some (some (.int .u8 0),1,1):=by kernel_rfl
def shB(n:Int):Nat→Int
 |0=>n
 |j+1=>shB n j / 256
theorem A0u(n:Int)(j:Nat):leB n (j+1)=leB n j++[shB n j%256]:=by
 have e:∀(j:Nat) (n:Int),shB (n / 256) j=shB n (j+1):=by
  intro j
  induction j with
  |zero=>intro n;rfl
  |succ j ih=>intro n;show shB (n / 256) j / 256=shB n (j+1) / 256;rw[ih]
 induction j generalizing n with
 |zero=>rfl
 |succ j ih=>
  show n%256::leB (n / 256) (j+1)=n%256::(leB (n / 256) j++[shB n (j+1)%256])
  rw[ih,e]
theorem A2K{n:Int}(h:I64 n)(j:Nat):I64 (shB n j):=by
 unfold I64 at*
 induction j with
 |zero=>exact h
 |succ j ih=>show _≤shB n j / 256∧shB n j / 256≤_;omega
theorem G7(n:Int)(k:Nat)(w:World)(hn:I64 n)(hk:k≤8):Calls prog 75 #[.int .i64 n,.int .i64 (k:Int)] w fun e w'=>∃v,e= .returned v∧RowI w' w.heap.size 5 .u8 v (leB n k)∧Below w.heap.size w w':=by
 obtain⟨i0,hi0,hz0,hz1,hz2⟩:=info_parts G4;have HN:=hid hn;clear hn;go_enter func75,ntmps75;go_wp2_with fail
 go_loopw[0,5,7] (fun m v i wr=>∃j:Nat,j≤k∧m= .int .i64 (shB n j)∧i= .int .i64 j∧RowI wr w.heap.size 5 .u8 v (leB n j)∧Below w.heap.size w wr) (fun _ _ i _=>k-(intOf i).toNat)
 case atStart=>exact⟨0,Nat.zero_le _,rfl,rfl,RowI.nil _ _ _ _,Below.refl _ _⟩
 case round=>
  obtain⟨j,hj,rfl,rfl,hrow,hb⟩:=hrel;have hsz:=hb.size;have HB:=hid hb;clear hb;by_cases hlt:j<k
  ·have HS:=hid (A0u n j);have HT:Hid (shB n (j+1)=shB n j / 256):=rfl;have hq:=A2K HN.out j;unfold I64 at hq;have htl:=A3 n j;generalize shB n j=m at*
   generalize leB n j=l at*
   obtain⟨va,vc,rfl⟩:=hrow.shape;unfold RowI at hrow;rw[htl]at hrow⊢;have HO0:=hid hrow;have HTL:=hid htl;obtain⟨q1,q2⟩:=hq;clear htl hrow;go_wp2_with(at_builtin;refine wpList_append_own _ rfl _ _ 24 rfl w.heap.size 5 i0 (.int .u8 0) 1 1 underlying24 hi0 hz0 hz1 hz2 rfl (by decide) _ _ _ rfl (HO0.out.alloc _) ⟨wr.heap.size,0,none⟩ 1 1 [.int .u8 (m%256)] rfl rfl ?c1 ?c2 ?c3 ?c4 ?c5 ?_)
   case c1=>
    intro i u h;rcases i with _|i
    ·cases h;simp[go_sem,Addr.add]
    ·cases h
   case c2=>simp[Value.oneCell']
   case c3=>unfold maxLen;omega
   case c4=>omega
   case c5=>simp;omega
   exact B1A
  ·obtain rfl:j=k:=by omega
   go_wp2_with fail
   go_ret;exact⟨_,rfl,hrow,HB.out⟩
theorem J6(n:Int)(k:Nat)(w:World)(hn:I64 n)(hk:k≤8):Calls prog 112 #[.int .i64 n,.int .i64 (k:Int)] w fun e w'=>∃v,e= .returned v∧RowI w' w.heap.size 5 .u8 v (leB n k)∧Below w.heap.size w w':=by
 obtain⟨i0,hi0,hz0,hz1,hz2⟩:=info_parts G4;have HN:=hid hn;clear hn;go_enter func112,ntmps112;go_wp2_with fail
 go_loopw[0,5,6] (fun m v i wr=>∃j:Nat,j≤k∧m= .int .i64 (shB n j)∧i= .int .i64 j∧RowI wr w.heap.size 5 .u8 v (leB n j)∧Below w.heap.size w wr) (fun _ _ i _=>k-(intOf i).toNat)
 case atStart=>exact⟨0,Nat.zero_le _,rfl,rfl,RowI.nil _ _ _ _,Below.refl _ _⟩
 case round=>
  obtain⟨j,hj,rfl,rfl,hrow,hb⟩:=hrel;have hsz:=hb.size;have HB:=hid hb;clear hb;by_cases hlt:j<k
  ·have HS:=hid (A0u n j);have HT:Hid (shB n (j+1)=shB n j / 256):=rfl;have hq:=A2K HN.out j;unfold I64 at hq;have htl:=A3 n j;generalize shB n j=m at*
   generalize leB n j=l at*
   obtain⟨va,vc,rfl⟩:=hrow.shape;unfold RowI at hrow;rw[htl]at hrow⊢;have HO0:=hid hrow;have HTL:=hid htl;obtain⟨q1,q2⟩:=hq;clear htl hrow;go_wp2_with(at_builtin;refine wpList_append_own _ rfl _ _ 24 rfl w.heap.size 5 i0 (.int .u8 0) 1 1 underlying24 hi0 hz0 hz1 hz2 rfl (by decide) _ _ _ rfl (HO0.out.alloc _) ⟨wr.heap.size,0,none⟩ 1 1 [.int .u8 (m%256)] rfl rfl ?c1 ?c2 ?c3 ?c4 ?c5 ?_)
   case c1=>
    intro i u h;rcases i with _|i
    ·cases h;simp[go_sem,Addr.add,I1,Int.emod_emod_of_dvd]
    ·cases h
   case c2=>simp[Value.oneCell']
   case c3=>unfold maxLen;omega
   case c4=>omega
   case c5=>simp;omega
   exact B1A
  ·obtain rfl:j=k:=by omega
   go_wp2_with fail
   go_ret;exact⟨_,rfl,hrow,HB.out⟩
end Go.Proofs.YtdojafpjipcbjaaGreat
