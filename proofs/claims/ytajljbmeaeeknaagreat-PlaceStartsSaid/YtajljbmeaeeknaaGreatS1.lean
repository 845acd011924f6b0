/- -/
import Derived.Test.YtajljbmeaeeknaaGreatRows
import Derived.WalkKit
import Derived.WalkSpells
import Derived.WalkLawsBesides
import Derived.Laws.EntriesVeiled
import Derived.Lib.Hide
import Derived.OwnWalk
import Derived.Laws.OwnMore
import Derived.Deep.Quiet
import Derived.StillTail
import Derived.BigQuiet
import Derived.Below
import Derived.Deep.QuietTactic
import Derived.Deep.RegionHeld3
import Derived.BigGuardPart
import Derived.Maps.Keyed
import Derived.DeepKeys5
import Derived.Deep.MidRow
import Derived.Laws.ResultCell
import Derived.Deep.Cut
import Derived.Deep.CutRange
open Go.Proofs.Tryz
open Go.Lib (hid)
set_option maxRecDepth 100000
namespace Go.Proofs.YtajljbmeaeeknaaGreat
open Go.RowKit
def K6(w:World)(r:Nat):Option (Array MapEntry×Nat):=match w.heap[r]? with|some (.map es c)=>some (es,c)|_=>none
def H7(w:World)(r:Nat)(es:Array MapEntry)(c:Nat):World:={w with heap:=w.heap.setIfInBounds r (.map es c)}
theorem R6(w:World)(es:Array MapEntry)(c n:Nat)(hn:n=w.heap.size):K6 (w.alloc (.map es c)) n=some (es,c):=by
 subst hn;unfold K6;rw[show(w.alloc (.map es c)).heap[w.heap.size]? =some (.map es c)from Array.getElem?_push_size]
theorem X7(w:World)(o:Obj)(n:Nat)(hn:n<w.heap.size):K6 (w.alloc o) n=K6 w n:=by
 unfold K6;rw[Below.heap_alloc w o n hn]
theorem A1x(w:World)(n:Nat):K6 w.drew n=K6 w n:=rfl
theorem A0m(w:World)(n k:Nat):K6 (w.drewN k) n=K6 w n:=rfl
theorem b9(w:World)(es es':Array MapEntry)(c c' n:Nat)(hn:n=w.heap.size):H7 (w.alloc (.map es c)) n es' c'=w.alloc (.map es' c'):=by
 subst hn;have h:(w.heap.push (.map es c)).setIfInBounds w.heap.size (.map es' c')=w.heap.push (.map es' c'):=by
  apply Array.ext_getElem?;intro i;rw[Array.getElem?_setIfInBounds,Array.getElem?_push,Array.getElem?_push];by_cases hi:i=w.heap.size
  ·subst hi;simp
  ·rw[if_neg (fun e=>hi e.symm),if_neg hi,if_neg hi]
 exact congrArg (fun x=>{w with heap:=x}) h
theorem U8(w:World)(o:Obj)(n:Nat)(es:Array MapEntry)(c:Nat)(hn:n<w.heap.size):H7 (w.alloc o) n es c=(H7 w n es c).alloc o:=by
 have h:(w.heap.push o).setIfInBounds n (.map es c)=(w.heap.setIfInBounds n (.map es c)).push o:=by
  apply Array.ext_getElem?;intro i;rw[Array.getElem?_setIfInBounds,Array.getElem?_push,Array.getElem?_push,Array.getElem?_setIfInBounds,Array.size_push,Array.size_setIfInBounds];by_cases hi:i=w.heap.size
  ·subst hi;rw[if_neg (by omega),if_pos rfl,if_pos rfl]
  ·rw[if_neg hi,if_neg hi];by_cases h2:n=i
   ·rw[if_pos h2,if_pos h2,if_pos (by omega),if_pos hn]
   ·rw[if_neg h2,if_neg h2]
 exact congrArg (fun x=>{w with heap:=x}) h
theorem Q7(w:World)(n:Nat)(es:Array MapEntry)(c:Nat):(H7 w n es c).heap.size=w.heap.size:=by simp[H7]
attribute [go_sem] R6 X7 A1x A0m b9 U8 Q7
theorem N0{w:World}{r:Nat}{es:Array MapEntry}{c:Nat}(h:K6 w r=some (es,c)):w.heap[r]? =some (.map es c):=by
 unfold K6 at h
 split at h
 ·rename_i h1;simp at h;obtain⟨rfl,rfl⟩:=h;exact h1
 ·cases h
theorem A1J(k:TypeDesc)(v:Value)(i:Nat):Instr.findNow k v [] i=some none:=rfl
theorem A1K(kk:IntKind)(n m:Int)(v:Value)(b:Nat)(es:List MapEntry)(i:Nat):
  Instr.findNow (.int kk) (.int kk n) (⟨.int kk m,v,b⟩::es) i=if n=m then some (some (i,v))else Instr.findNow (.int kk) (.int kk n) es (i+1):=by
 by_cases h:n=m
 ·subst h;simp[Instr.findNow,Instr.sameNow]
 ·have:(n==m)=false:=by simpa using h
  simp[Instr.findNow,Instr.sameNow,h,this]
attribute [go_sem] A1J A1K
def Only(b:Nat)(w w':World):Prop:=w.heap.size≤w'.heap.size∧∀k,k<w.heap.size→k≠b→w'.heap[k]? =w.heap[k]?
theorem Only.refl(b:Nat)(w:World):Only b w w:=⟨Nat.le_refl _,fun _ _ _=>rfl⟩
theorem Only.alloc{b:Nat}{w w':World}(h:Only b w w')(o:Obj):Only b w (w'.alloc o):=
 ⟨Nat.le_trans h.1 (by simp),fun k h1 h2=>(Below.heap_alloc w' o k (Nat.lt_of_lt_of_le h1 h.1)).trans (h.2 k h1 h2)⟩
theorem Only.setCell{b:Nat}{w w':World}(h:Only b w w'){a:Addr}(ha:a.block=b)(v:Value):Only b w (w'.setCell a v):=
 ⟨Nat.le_trans h.1 (by simp[World.setCell]),fun k h1 h2=>(Below.heap_setCell w' a v k (by rw[ha];exact h2)).trans (h.2 k h1 h2)⟩
theorem Only.at{b:Nat}{w w':World}(h:Only b w w')(o:Nat)(v:Value):Only b w (w'.setCell ⟨b,o,none⟩ v):=h.setCell rfl v
theorem A9{B b:Nat}{w w':World}(h:Below B w w')(hb:B≤b)(o:Nat)(v:Value):Below B w (w'.setCell ⟨b,o,none⟩ v):=Below.setCell h hb v
theorem B8{B:Nat}{w w':World}(h:Below B w w')(n:Nat):Below B w (w'.drewN n):=h.trans ⟨rfl,rfl,rfl,Nat.le_refl _,fun _ _=>rfl⟩
theorem Only.drew{b:Nat}{w w':World}(h:Only b w w'):Only b w w'.drew:=h
theorem Only.drewN{b:Nat}{w w':World}(h:Only b w w')(n:Nat):Only b w (w'.drewN n):=h
theorem Only.cell{b:Nat}{w w':World}(h:Only b w w'){k o:Nat}(hk:k<w.heap.size)(hb:k≠b):w'.cell? ⟨k,o,none⟩=w.cell? ⟨k,o,none⟩:=by
 unfold World.cell?;rw[h.2 k hk hb]
theorem A6v{W w1:World}(hb:Below W.heap.size W w1):(∀b o,b<W.heap.size→w1.cell? ⟨b,o,none⟩=W.cell? ⟨b,o,none⟩)∧(∀b o,b<W.heap.size→w1.frozen? ⟨b,o,none⟩=W.frozen? ⟨b,o,none⟩):=
 ⟨fun b o h=>hb.cell (p:=⟨b,o,none⟩) h,fun b o h=>hb.frozen (p:=⟨b,o,none⟩) h⟩
theorem D3{w w1:World}{cs:Array Value}{T:TypeId}(hb:Below (w.alloc (.cells cs T)).heap.size (w.alloc (.cells cs T)) w1)(i:Nat):w1.cell? ⟨w.heap.size,i,none⟩=cs[i]? :=by
 rw[(A6v hb).1 _ _ (by simp)];simp[go_sem]
theorem C9{w w1:World}{o:Obj}(hb:Below (w.alloc o).heap.size (w.alloc o) w1):Below w.heap.size w w1:=((Below.refl _ _).alloc (Nat.le_refl _) _).trans (hb.mono (by simp))
theorem B7{B:Nat}{w w1 w2:World}(h1:Below B w w1)(hB:B≤w1.heap.size)(h2:Below w1.heap.size w1 w2):Below B w w2:=h1.trans (h2.mono hB)
theorem A8{w w1 w2:World}(h1:Below w.heap.size w w1)(h2:Below w1.heap.size w1 w2):Below w.heap.size w w2:=B7 h1 h1.size h2
end Go.Proofs.YtajljbmeaeeknaaGreat
namespace Go.Proofs.YtajljbmeaeeknaaGreat
open Go.RowKit
set_option linter.unusedVariables false
set_option linter.unusedSimpArgs false
def Slc(w:World)(v:Value)(n z:Nat)(C:Nat→Nat→Nat→Prop):Prop:=
 ∃(a:Option Addr) (c:Nat),v= .slice a n c∧n≤c∧(n≤140737488351232∧c≤9223372036854775807)∧(a=none→c=0)∧∀i,i<n→∃b o,a=some ⟨b,o,none⟩∧b<w.heap.size∧C i b (o+i*z)
def Ints(k:IntKind)(w:World)(v:Value)(xs:List Int):Prop:=Slc w v xs.length 1 fun i b o=>w.cell? ⟨b,o,none⟩=some (.int k (xs.getD i 0))
structure Nd where
 op:Int
 width:Int
 flags:Int
 args:List Int
 imm:Int
 deriving Inhabited
def NdAt(w:World)(b o:Nat)(x:Nd):Prop:=
 w.cell? ⟨b,o,none⟩=some (.int .i64 x.op)∧w.cell? ⟨b,o+1,none⟩=some (.int .i64 x.width)∧w.cell? ⟨b,o+2,none⟩=some (.int .i64 x.flags)∧
 (∃v,w.cell? ⟨b,o+3,none⟩=some v∧Ints .i64 w v x.args)∧w.cell? ⟨b,o+4,none⟩=some (.int .u32 x.imm)
def Nds(w:World)(v:Value)(ts:List Nd):Prop:=Slc w v ts.length 5 fun i b o=>NdAt w b o (ts.getD i default)
theorem A7{B:Nat}{w w':World}(h:Below B w w'){b o:Nat}{v:Value}(hb:b<B)(hc:w.cell? ⟨b,o,none⟩=some v):w'.cell? ⟨b,o,none⟩=some v:=by
 rw[←hc];exact h.cell (p:=⟨b,o,none⟩) hb
theorem B6{w:World}{b o:Nat}{v:Value}(h:w.cell? ⟨b,o,none⟩=some v):b<w.heap.size:=by
 unfold World.cell? at h;by_cases hb:b<w.heap.size
 ·exact hb
 ·simp[Array.getElem?_eq_none (Nat.le_of_not_lt hb)]at h
theorem Slc.stays{w w':World}{v:Value}{n z:Nat}{C C':Nat→Nat→Nat→Prop}(h:Slc w v n z C)(hb:Below w.heap.size w w')(hC:∀i b o,b<w.heap.size→C i b o→C' i b o):Slc w' v n z C':=by
 obtain⟨a,c,e,h1,h2,h3,h4⟩:=h;refine⟨a,c,e,h1,h2,h3,fun i hi=>?_⟩;obtain⟨b,o,e1,e2,e3⟩:=h4 i hi;exact⟨b,o,e1,Nat.lt_of_lt_of_le e2 hb.size,hC i b _ e2 e3⟩
theorem Ints.stays{k:IntKind}{w w':World}{v:Value}{xs:List Int}(h:Ints k w v xs)(hb:Below w.heap.size w w'):Ints k w' v xs:=
 Slc.stays h hb fun _ _ _ hlt hc=>A7 hb hlt hc
theorem NdAt.stays{w w':World}{b o:Nat}{x:Nd}(h:NdAt w b o x)(hlt:b<w.heap.size)(hb:Below w.heap.size w w'):NdAt w' b o x:=by
 obtain⟨h1,h2,h3,⟨v,h4,h5⟩,h6⟩:=h;exact⟨A7 hb hlt h1,A7 hb hlt h2,A7 hb hlt h3,⟨v,A7 hb hlt h4,h5.stays hb⟩,A7 hb hlt h6⟩
theorem Nds.stays{w w':World}{v:Value}{ts:List Nd}(h:Nds w v ts)(hb:Below w.heap.size w w'):Nds w' v ts:=
 Slc.stays h hb fun _ _ _ hlt hc=>hc.stays hlt hb
def RowI(w:World)(base:Nat)(e:TypeId)(k:IntKind)(v:Value)(xs:List Int):Prop:=w.ownsRow base e 1 v xs.length (xs.map (Value.int k))
theorem RowI.ints{w:World}{base:Nat}{e:TypeId}{k:IntKind}{v:Value}{xs:List Int}(h:RowI w base e k v xs)(hl:xs.length≤140737488351232):Ints k w v xs:=by
 obtain⟨_,⟨rfl,h0⟩|⟨g,cap,cur,rfl,hb,hg,h1,h2,h3,h4⟩⟩:=h
 ·exact⟨none,0,by rw[h0],by omega,by omega,fun _=>rfl,fun i hi=>absurd hi (by omega)⟩
 ·refine⟨some ⟨g,0,none⟩,cap,rfl,h1,⟨hl,by unfold maxLen at h2;omega⟩,(fun hh=>by cases hh),fun i hi=>⟨g,0,rfl,?_,?_⟩⟩
  ·rcases Nat.lt_or_ge g w.heap.size with h|h
   ·exact h
   ·rw[Array.getElem?_eq_none h]at hg;cases hg
  ·rw[Nat.mul_one,Nat.zero_add];have e1:w.cell? ⟨g,i,none⟩=cur.toList[i]? :=by simp[World.cell?,hg]
   have e2:(cur.toList.take (xs.length*1))[i]? =cur.toList[i]? :=by rw[List.getElem?_take,if_pos (by omega)]
   show w.cell? ⟨g,i,none⟩=_
   rw[e1,←e2,h4,List.getElem?_map,List.getElem?_eq_getElem hi,List.getD_eq_getElem?_getD,List.getElem?_eq_getElem hi];rfl
theorem RowI.nil(w:World)(base:Nat)(e:TypeId)(k:IntKind):RowI w base e k (.slice none 0 0) []:=World.ownsRow_nil w base e 1
theorem RowI.below{w w':World}{base:Nat}{e:TypeId}{k:IntKind}{v:Value}{xs:List Int}(h:RowI w base e k v xs)(hb:Below w.heap.size w w'):RowI w' base e k v xs:=by
 obtain⟨h0,⟨rfl,h1⟩|⟨g,cap,cur,rfl,hb',hg,h1,h2,h3,h4⟩⟩:=h
 ·exact⟨h0,.inl ⟨rfl,h1⟩⟩
 ·refine⟨h0,.inr ⟨g,cap,cur,rfl,hb',?_,h1,h2,h3,h4⟩⟩;have hlt:g<w.heap.size:=by
   rcases Nat.lt_or_ge g w.heap.size with h|h
   ·exact h
   ·rw[Array.getElem?_eq_none h]at hg;cases hg
  rw[←hg];exact hb.block g hlt
theorem RowI.shape{w:World}{base:Nat}{e:TypeId}{k:IntKind}{v:Value}{xs:List Int}(h:RowI w base e k v xs):∃a c,v= .slice a xs.length c:=by
 obtain⟨_,⟨rfl,h1⟩|⟨g,cap,cur,rfl,_⟩⟩:=h
 ·exact⟨none,0,by rw[h1]⟩
 ·exact⟨_,_,rfl⟩
theorem RowI.app{w:World}{base:Nat}{e:TypeId}{k:IntKind}{v:Value}{xs ys zs:List Int}{n:Nat}(h:w.ownsRow base e 1 v n (xs.map (Value.int k)++ys.map (Value.int k)))(hn:n=xs.length+ys.length)(hz:zs=xs++ys):RowI w base e k v zs:=by
 subst hz;subst hn;unfold RowI;rw[List.length_append,List.map_append];exact h
theorem RowI.app1{w:World}{base:Nat}{e:TypeId}{k:IntKind}{v:Value}{l zs:List Int}{y:Int}{j:Nat}(h:w.ownsRow base e 1 v (j+1) (l.map (Value.int k)++[.int k y]))(hl:l.length=j)(hz:zs=l++[y]):RowI w base e k v zs:=
 RowI.app (ys:=[y]) h (by rw[hl];rfl) hz
theorem R5{w:World}{base:Nat}{e:TypeId}{size:Nat}{v:Value}{n:Nat}{xs:List Value}(h:w.ownsRow base e size v n xs):∀k,v.ownBlock=some k→base≤k:=fun k hk=>(h.lt k hk).1
end Go.Proofs.YtajljbmeaeeknaaGreat
namespace Go.Proofs.YtajljbmeaeeknaaGreat
set_option linter.unusedVariables false
set_option linter.unusedSimpArgs false
structure In(C:World→Prop) where
 w:World
 h:C w
section
variable {P : Program} {ops : Array Oper} {md : Region.Mode} {C : World → Prop}
end
section
variable {P : Program} {C : World → Prop} {id : Nat} {Q : Exit → Act → World → Prop} {a : Act} {w : World} {l : List Oper}
end
end Go.Proofs.YtajljbmeaeeknaaGreat
namespace Go.Proofs.YtajljbmeaeeknaaGreat
open Go.RowKit
set_option linter.unusedVariables false
set_option linter.unusedSimpArgs false
theorem E9{k:IntKind}{a b:Int}(h:a=b):Ending.returned (.int k a)= .returned (.int k b):=by rw[h]
theorem N6{a b:Bool}(h:a=b):Ending.returned (.bool a)= .returned (.bool b):=by rw[h]
def Dr(w w':World):Prop:=∃n,w'=w.drewN n
theorem Dr.refl(w:World):Dr w w:=⟨0,rfl⟩
theorem Dr.drew{w w':World}(h:Dr w w')(n:Nat):Dr w (w'.drewN n):=by
 obtain⟨m,rfl⟩:=h;exact⟨m+n,World.drewN_drewN _ _ _⟩
theorem Dr.below{w w':World}(h:Dr w w')(B:Nat):Below B w w':=by
 obtain⟨n,rfl⟩:=h;exact⟨rfl,rfl,rfl,Nat.le_refl _,fun _ _=>rfl⟩
theorem Dr.trans{w w' w'':World}(h:Dr w w')(h':Dr w' w''):Dr w w'':=by
 obtain⟨m,rfl⟩:=h';exact h.drew m
theorem D8{P:Program}{f:FuncId}{args:Array Value}{w:World}{n:Nat}{v:Value}(h:Calls P f args (w.drewN n) fun e w'=>e= .returned v∧w.drewN n=w'):
  Calls P f args (w.drewN n) fun e w''=>e= .returned v∧∃m,w''=w.drewN m:=h.mono fun _ _ ⟨he,hm⟩=>⟨he,n,hm.symm⟩
def Since(w0 w:World):Prop:=Below w0.heap.size w0 w
theorem Since.refl(w:World):Since w w:=Below.refl _ _
theorem Since.drewN{w0 w:World}(h:Since w0 w)(n:Nat):Since w0 (w.drewN n):=B8 h n
theorem Since.drew{w0 w:World}(h:Since w0 w):Since w0 w.drew:=Below.drew h
theorem Since.next{w0 w w':World}(h:Since w0 w)(hb:Below w.heap.size w w'):Since w0 w':=A8 h hb
theorem Since.cell{w0 w:World}(h:Since w0 w){b o:Nat}{v:Value}(hc:w0.cell? ⟨b,o,none⟩=some v):w.cell? ⟨b,o,none⟩=some v:=A7 h (B6 hc) hc
theorem Since.free{w0 w:World}(h:Since w0 w){b o:Nat}(hb:b<w0.heap.size)(hf:w0.frozen? ⟨b,o,none⟩=false):w.frozen? ⟨b,o,none⟩=false:=by rw[←hf];exact Below.frozen (p:=⟨b,o,none⟩) h hb
theorem E3{w:World}{ob:Obj}{b o:Nat}{v:Value}(h:w.cell? ⟨b,o,none⟩=some v):(w.alloc ob).cell? ⟨b,o,none⟩=some v:=A7 ((Below.refl _ _).alloc (Nat.le_refl _) _) (B6 h) h
theorem A1g(l:List Int)(j:Nat)(h:j<l.length):l.take (j+1)=l.take j++[l.getD j 0]:=by
 rw[List.take_succ_eq_append_getElem h,List.getD_eq_getElem?_getD,List.getElem?_eq_getElem h];rfl
theorem Ints.nil(k:IntKind)(w:World):Ints k w (.slice none 0 0) []:=⟨none,0,rfl,Nat.le_refl _,⟨by simp,by omega⟩,fun _=>rfl,fun i hi=>absurd hi (by simp)⟩
theorem Ints.at{k:IntKind}{w:World}{v:Value}{xs:List Int}(h:Ints k w v xs){j:Nat}(hj:j<xs.length):∃b q c,v= .slice (some ⟨b,q,none⟩) xs.length c∧xs.length≤c∧b<w.heap.size∧w.cell? ⟨b,q+j,none⟩=some (.int k (xs.getD j 0)):=by
 obtain⟨a,c,rfl,h1,h2,_,h4⟩:=h;obtain⟨b,q,rfl,h5,h6⟩:=h4 j hj;rw[Nat.mul_one]at h6;exact⟨b,q,c,rfl,h1,h5,h6⟩
theorem Ints.shape{k:IntKind}{w:World}{v:Value}{xs:List Int}(h:Ints k w v xs):∃a c,v= .slice a xs.length c∧xs.length≤c∧xs.length≤140737488351232:=by
 obtain⟨a,c,rfl,h1,h2,_⟩:=h;exact⟨a,c,rfl,h1,h2.1⟩
theorem Ints.row{k:IntKind}{w:World}{a:Option Addr}{n c:Nat}{xs:List Int}(h:Ints k w (.slice a n c) xs)(h0:0<xs.length):∃b o,a=some ⟨b,o,none⟩∧b<w.heap.size∧∀i,i<xs.length→w.cell? ⟨b,o+i,none⟩=some (.int k (xs.getD i 0)):=by
 obtain⟨a',c',e,_,_,_,hc⟩:=h;cases e;obtain⟨b,o,rfl,hb,_⟩:=hc 0 h0;refine⟨b,o,rfl,hb,fun i hi=>?_⟩;obtain⟨b',o',e2,_,hd⟩:=hc i hi;cases e2;rw[Nat.mul_one]at hd;exact hd
def OInts(k:IntKind)(w:World)(B:Nat)(xs:List Int):Prop:=
 B<w.heap.size∧∀i,i<xs.length→w.cell? ⟨B,i,none⟩=some (.int k (xs.getD i 0))∧w.frozen? ⟨B,i,none⟩=false
theorem OInts.cell{k:IntKind}{w:World}{B:Nat}{xs:List Int}(h:OInts k w B xs){i:Nat}(hi:i<xs.length):w.cell? ⟨B,i,none⟩=some (.int k (xs.getD i 0)):=(h.2 i hi).1
theorem OInts.free{k:IntKind}{w:World}{B:Nat}{xs:List Int}(h:OInts k w B xs){i:Nat}(hi:i<xs.length):w.frozen? ⟨B,i,none⟩=false:=(h.2 i hi).2
theorem OInts.below{k:IntKind}{w w':World}{B:Nat}{xs:List Int}(h:OInts k w B xs)(hb:Below w.heap.size w w'):OInts k w' B xs:=
 ⟨Nat.lt_of_lt_of_le h.1 hb.size,fun i hi=>⟨by rw[←h.cell hi];exact hb.cell (p:=⟨B,i,none⟩) h.1,by rw[←h.free hi];exact hb.frozen (p:=⟨B,i,none⟩) h.1⟩⟩
theorem OInts.alloc{k:IntKind}{w:World}{B:Nat}{xs:List Int}(h:OInts k w B xs)(ob:Obj):OInts k (w.alloc ob) B xs:=h.below ((Below.refl _ _).alloc (Nat.le_refl _) _)
theorem OInts.drewN{k:IntKind}{w:World}{B:Nat}{xs:List Int}(h:OInts k w B xs)(n:Nat):OInts k (w.drewN n) B xs:=h
theorem OInts.set{k:IntKind}{w:World}{B:Nat}{xs:List Int}(h:OInts k w B xs){i:Nat}(hi:i<xs.length)(x:Int):OInts k (w.setCell ⟨B,i,none⟩ (.int k x)) B (xs.set i x):=by
 refine⟨by simpa using h.1,fun j hj=>?_⟩;rw[List.length_set]at hj;refine⟨?_,by rw[World.frozen?_setCell];exact h.free hj⟩;by_cases e:i=j
 ·subst e;rw[World.cell?_setCell_same _ _ _ (h.cell hi),List.getD_eq_getElem?_getD,List.getElem?_set_self hi];rfl
 ·rw[World.cell?_setCell_other _ _ _ _ (by intro hh;cases hh;exact e rfl),h.cell hj,List.getD_eq_getElem?_getD,List.getD_eq_getElem?_getD,List.getElem?_set_ne e]
theorem OInts.ints{k:IntKind}{w:World}{B:Nat}{xs:List Int}(h:OInts k w B xs)(hl:xs.length≤140737488351232):Ints k w (.slice (some ⟨B,0,none⟩) xs.length xs.length) xs:=
 ⟨some ⟨B,0,none⟩,xs.length,rfl,Nat.le_refl _,⟨hl,by omega⟩,(fun hh=>by cases hh),fun i hi=>⟨B,0,rfl,h.1,by rw[Nat.mul_one,Nat.zero_add];exact h.cell hi⟩⟩
theorem Ints.newsK{k:IntKind}{w:World}{ad:Addr}{n c:Nat}{xs:List Int}(h:Ints k w (.slice (some ad) n c) xs):∀(j:Nat) (u:Value),(xs.map (Value.int k))[j]? =some u→w.cell? (ad.add j)=some u:=by
 intro j u hu;rw[List.getElem?_map]at hu;cases e:xs[j]? with
 |none=>rw[e]at hu;cases hu
 |some y=>
  rw[e]at hu;cases hu;have hj:j<xs.length:=by
   rcases Nat.lt_or_ge j xs.length with h|h
   ·exact h
   ·rw[List.getElem?_eq_none h]at e;cases e
  obtain⟨a,c',e',_,_,_,h4⟩:=h;cases e';obtain⟨b',o',e',h5,h6⟩:=h4 j hj;cases e';rw[Nat.mul_one,List.getD_eq_getElem?_getD,e]at h6;by_cases hj0:j=0
  ·subst hj0;exact h6
  ·simpa[Addr.add,hj0]using h6
end Go.Proofs.YtajljbmeaeeknaaGreat
namespace Go.Proofs.YtajljbmeaeeknaaGreat
open Go.RowKit Go.Maps
set_option linter.unusedVariables false
set_option linter.unusedSimpArgs false
def S9(l:List (Value×Value)):Array MapEntry:=(l.mapIdx fun i p=>(⟨p.1,p.2,i⟩:MapEntry)).toArray
theorem M9{l:List (Value×Value)}{e:MapEntry}(h:e∈(S9 l).toList):(e.key,e.val)∈l:=by
 unfold S9 at h;simp only[List.mem_mapIdx]at h;obtain⟨i,hi,rfl⟩:=h;exact List.getElem_mem hi
theorem A3g(l:List (Value×Value))(k v:Value):(S9 l).push ⟨k,v,l.length⟩=S9 (l++[(k,v)]):=by
 unfold S9;simp
def MapIs(P:Program)(K:TypeId)(w:World)(r:Nat)(l:List (Value×Value)):Prop:=
 r<w.heap.size∧K6 w r=some (S9 l,l.length)∧(∀p∈l,∃q,keyOf P K p.1=some q)∧(l.map (·.1)).Nodup
section
variable {P : Program} {t K E : TypeId} {w : World} {r : Nat} {l : List (Value × Value)}
theorem P7(law:Keyed P K)(ht:P.underlying t=some (.map K E))(h:MapIs P K w r l){k v:Value}{q:Lit}(hk:keyOf P K k=some q)(hm:(k,v)∈l):
  (Instr.lookup t (.map (some r)) k true).run P w= .ok (.tuple #[v,.bool true]) w:=by
 obtain⟨_,h1,h2,h3⟩:=h;have hb:=N0 h1;have hfind:=law.find w hk (S9 l).toList (fun e he=>h2 _ (M9 he));have hval:∀e∈(S9 l).toList,e.key=k→e.val=v:=by
  intro e he hek;have hm2:=M9 he;rw[hek]at hm2;obtain⟨i,hi,e1⟩:=List.getElem_of_mem hm;obtain⟨j,hj,e2⟩:=List.getElem_of_mem hm2;have hij:i=j:=by
   have hp:=List.pairwise_iff_getElem.1 h3;rcases Nat.lt_trichotomy i j with h|h|h
   ·exact absurd (show(l.map (·.1))[i]'(by simpa using hi)=(l.map (·.1))[j]'(by simpa using hj)from by simp[e1,e2]) (hp i j (by simpa using hi) (by simpa using hj) h)
   ·exact h
   ·exact absurd (show(l.map (·.1))[j]'(by simpa using hj)=(l.map (·.1))[i]'(by simpa using hi)from by simp[e1,e2]) (hp j i (by simpa using hj) (by simpa using hi) h)
  subst hij;rw[e1]at e2;cases e2;rfl
 rcases hfind with⟨_,hno⟩|⟨j,e,hrun,hj,hek⟩
 ·exfalso;obtain⟨i,hi,e1⟩:=List.getElem_of_mem hm;refine hno ⟨k,v,i⟩ ?_ rfl;unfold S9;simp only[List.mem_mapIdx];exact⟨i,hi,by rw[e1]⟩
 ·have hv:=hval e (List.mem_of_getElem? hj) hek;simp[Instr.lookup,run_underlying ht,MapKept.run_getObj_map hb,law.check w _ hk,hrun,hv,Result.andThen]
theorem R7(law:Keyed P K)(ht:P.underlying t=some (.map K E)){z:Value}(hz:∀w,(zeroValue E).run P w= .ok z w)(h:MapIs P K w r l){k:Value}{q:Lit}(hk:keyOf P K k=some q)(hm:∀p∈l,p.1≠k):
  (Instr.lookup t (.map (some r)) k true).run P w= .ok (.tuple #[z,.bool false]) w:=by
 obtain⟨_,h1,h2,h3⟩:=h;have hb:=N0 h1;rcases law.find w hk (S9 l).toList (fun e he=>h2 _ (M9 he))with⟨hrun,_⟩|⟨j,e,hrun,hj,hek⟩
 ·simp[Instr.lookup,run_underlying ht,MapKept.run_getObj_map hb,law.check w _ hk,hrun,hz,Result.andThen]
 ·exact absurd hek (hm _ (M9 (List.mem_of_getElem? hj)))
theorem A1d(law:Keyed P K)(ht:P.underlying t=some (.map K E))(h:MapIs P K w r l){k v:Value}{q:Lit}(hk:keyOf P K k=some q)(hm:∀p∈l,p.1≠k):
  (Instr.mapUpdate t (.map (some r)) k v).run P w= .ok () (H7 w r (S9 (l++[(k,v)])) (l.length+1)):=by
 obtain⟨_,h1,h2,h3⟩:=h;have hb:=N0 h1;rcases law.find w hk (S9 l).toList (fun e he=>h2 _ (M9 he))with⟨hrun,_⟩|⟨j,e,hrun,hj,hek⟩
 ·simp[Instr.mapUpdate,run_underlying ht,MapKept.run_getObj_map hb,law.check w _ hk,hrun,MapKept.run_setObj_map _ hb,Result.andThen,H7,A3g]
 ·exact absurd hek (hm _ (M9 (List.mem_of_getElem? hj)))
theorem y9{es es':Array MapEntry}{c c':Nat}(h:K6 w r=some (es,c)):K6 (H7 w r es' c') r=some (es',c'):=by
 have hb:=N0 h;have hlt:r<w.heap.size:=by
  rcases Nat.lt_or_ge r w.heap.size with h|h
  ·exact h
  ·rw[Array.getElem?_eq_none h]at hb;cases hb
 unfold K6 H7;simp[Array.getElem?_setIfInBounds,hlt]
theorem MapIs.new(h:MapIs P K w r l){k v:Value}{q:Lit}(hk:keyOf P K k=some q)(hm:∀p∈l,p.1≠k):MapIs P K (H7 w r (S9 (l++[(k,v)])) (l.length+1)) r (l++[(k,v)]):=by
 obtain⟨h0,h1,h2,h3⟩:=h;refine⟨by rw[Q7];exact h0,by rw[y9 h1];simp,?_,?_⟩
 ·intro p hp;rcases List.mem_append.1 hp with hp|hp
  ·exact h2 p hp
  ·simp at hp;subst hp;exact⟨q,hk⟩
 ·rw[List.map_append,List.nodup_append];refine⟨h3,by simp,?_⟩;intro a ha b hb;simp at hb;subst hb;obtain⟨p,hp,rfl⟩:=List.mem_map.1 ha;exact hm p hp
theorem MapIs.below{w':World}(h:MapIs P K w r l)(hb:Below w.heap.size w w'):MapIs P K w' r l:=by
 obtain⟨h0,h1,h2,h3⟩:=h;refine⟨Nat.lt_of_lt_of_le h0 hb.size,?_,h2,h3⟩;rw[←h1];unfold K6;rw[hb.block r h0]
theorem MapIs.made{w:World}:MapIs P K (w.alloc (.map #[] 0)) w.heap.size []:=
 ⟨by simp,by rw[R6 _ _ _ _ rfl];rfl,(fun p hp=>by cases hp),by simp⟩
theorem A0I{B:Nat}{w w':World}(h:Below B w w'){r:Nat}(hr:B≤r)(es:Array MapEntry)(c:Nat):Below B w (H7 w' r es c):=by
 refine h.trans ⟨rfl,rfl,rfl,by simp[H7],fun k hk=>?_⟩;show(w'.heap.setIfInBounds r _)[k]? =_
 rw[Array.getElem?_setIfInBounds,if_neg (by omega)]
theorem A1O{w:World}{r b o:Nat}{es:Array MapEntry}{c:Nat}(h:b≠r):(H7 w r es c).cell? ⟨b,o,none⟩=w.cell? ⟨b,o,none⟩:=by
 unfold World.cell? H7;simp only[Array.getElem?_setIfInBounds];rw[if_neg (fun e=>h e.symm)]
theorem A0u{w:World}{r b o:Nat}{es:Array MapEntry}{c:Nat}(h:b≠r):(H7 w r es c).frozen? ⟨b,o,none⟩=w.frozen? ⟨b,o,none⟩:=by
 unfold World.frozen? H7;simp only[Array.getElem?_setIfInBounds];rw[if_neg (fun e=>h e.symm)]
end
end Go.Proofs.YtajljbmeaeeknaaGreat
namespace Go.Proofs.YtajljbmeaeeknaaGreat
open Go.RowKit Go.Maps
set_option linter.unusedVariables false
set_option linter.unusedSimpArgs false
theorem A8s{p:Prop}(h:p:=by
 intro j v hj;have hc:=h k _ (List.getElem?_eq_getElem hk);by_cases e:k=j
 ·subst e;rw[List.getElem?_set_self hk]at hj;cases hj;exact⟨World.cell?_setCell_same _ _ _ hc.1,by rw[World.frozen?_setCell];exact hc.2⟩
 ·rw[List.getElem?_set_ne e]at hj;have:=h j v hj;exact⟨by rw[World.cell?_setCell_other _ _ _ _ (by intro hh;cases hh;exact e rfl)];exact this.1,by rw[World.frozen?_setCell];exact this.2⟩
 ):p:=h
def Cls(w:World)(b:Nat)(cs:List Value):Prop:=∀k v,cs[k]? =some v→w.cell? ⟨b,k,none⟩=some v∧w.frozen? ⟨b,k,none⟩=false
theorem Cls.set{w:World}{b:Nat}{cs:List Value}(h:Cls w b cs){k:Nat}(hk:k<cs.length)(u:Value):Cls (w.setCell ⟨b,k,none⟩ u) b (cs.set k u):=by
 exact A8s
theorem Cls.other{w:World}{b b' k:Nat}{cs:List Value}(h:Cls w b cs)(hb:b≠b')(u:Value):Cls (w.setCell ⟨b',k,none⟩ u) b cs:=by
 intro j v hj;have:=h j v hj;exact⟨by rw[World.cell?_setCell_other _ _ _ _ (by intro hh;cases hh;exact hb rfl)];exact this.1,by rw[World.frozen?_setCell];exact this.2⟩
theorem Cls.lt{w:World}{b:Nat}{cs:List Value}(h:Cls w b cs)(h0:0<cs.length):b<w.heap.size:=B6 (h 0 _ (List.getElem?_eq_getElem h0)).1
theorem Cls.block{w w':World}{b:Nat}{cs:List Value}(h:Cls w b cs)(hb:w'.heap[b]? =w.heap[b]?):Cls w' b cs:=fun k v hk=>by
 have:=h k v hk;unfold World.cell? World.frozen? at this⊢;rw[hb];exact this
theorem Cls.below{w w':World}{b B:Nat}{cs:List Value}(h:Cls w b cs)(hB:b<B)(hb:Below B w w'):Cls w' b cs:=h.block (hb.block b hB)
theorem Cls.map{w:World}{b r:Nat}{cs:List Value}(h:Cls w b cs)(hb:b≠r)(es:Array MapEntry)(c:Nat):Cls (H7 w r es c) b cs:=fun k v hk=>by
 have:=h k v hk;exact⟨by rw[A1O hb];exact this.1,by rw[A0u hb];exact this.2⟩
theorem Cls.made{w:World}{cs:List Value}{t:TypeId}:Cls (w.alloc (.cells cs.toArray t)) w.heap.size cs:=fun k v hk=>by
 constructor
 ·simp[go_sem,hk]
 ·simp[go_sem]
theorem Cls.res2{P:Program}{fn:Func}{p u:Tmp}{ty:TypeId}{tmps:Array Value}{w:World}{b:Nat}{cs:List Value}{d:TypeDesc}{v:Value}(h:Cls w b cs)(hf:fn.results=#[.cell p ty,.tmp u])(hp:tmps.getD p undef= .pointer (some ⟨b,0,none⟩))(hv:tmps.getD u undef=v)(hu:P.underlying ty=some d)(hd:d.isRow=true)(hi:(P.info? ty).map (·.size)=some cs.length):
  (results fn tmps).run P w= .ok (.tuple #[.agg cs.toArray,v]) w:=by
 have hr:w.rangeAt b 0 cs:=fun j v hj=>by rw[Nat.zero_add];exact(h j v hj).1
 rw[results_cell_tmp hf,hp,hv];simp[asAddr,run_loadVar_mid w b 0 ty cs d hr hu hd hi,Result.andThen]
theorem Cls.at{w:World}{b:Nat}{cs:List Value}(h:Cls w b cs)(k:Nat)(v:Value)(hk:cs[k]? =some v):w.cell? ⟨b,k,none⟩=some v:=(h k v hk).1
theorem Cls.at'{w:World}{b:Nat}{cs:List Value}(h:Cls w b cs)(k:Nat)(v:Value)(hk:cs[k]? =some v):w.frozen? ⟨b,k,none⟩=false:=(h k v hk).2
theorem Cls.res1{P:Program}{fn:Func}{p:Tmp}{ty:TypeId}{tmps:Array Value}{w:World}{b:Nat}{cs:List Value}{d:TypeDesc}(h:Cls w b cs)(hf:fn.results=#[.cell p ty])(hp:tmps.getD p undef= .pointer (some ⟨b,0,none⟩))(hu:P.underlying ty=some d)(hd:d.isRow=true)(hi:(P.info? ty).map (·.size)=some cs.length):
  (results fn tmps).run P w= .ok (.agg cs.toArray) w:=by
 have hr:w.rangeAt b 0 cs:=fun j v hj=>by rw[Nat.zero_add];exact(h j v hj).1
 have hp':tmps[p]?.getD undef= .pointer (some ⟨b,0,none⟩):=by simpa using hp
 simp[results,hf,hp',asAddr,run_loadVar_mid w b 0 ty cs d hr hu hd hi]
theorem A5q{p:Prop}(h:p:=by
 go_enter func42,ntmps42;go_wp2_with fail
 exact bodyPost_ret (v:=.tuple #[.bool false,.bool false,.bool false,.bool false,.bool false]) (by simp[results,results42,go_sem]) rfl ⟨rfl,rfl⟩
 ):p:=h
theorem A8p{p:Prop}(h:p:=by
 go_enter func203,ntmps203;go_wp2_with fail
 refine bodyPost_ret (v:=.tuple #[.agg #[.bool false,.bool false,.bool false,.bool false,.bool false,.bool false],.bool false]) (Cls.res2 (cs:=[.bool false,.bool false,.bool false,.bool false,.bool false,.bool false]) Cls.made rfl rfl rfl underlying251 rfl (by kernel_rfl)) rfl ⟨rfl,(Below.refl _ w).alloc (Nat.le_refl _) _⟩
 ):p:=h
theorem A8o{p:Prop}(h:p:=by
 go_enter func203,ntmps203;go_wp2_with fail
 refine bodyPost_ret (v:=.tuple #[.agg #[.bool false,.bool false,.bool false,.bool false,.bool false,.bool false],.bool true]) (Cls.res2 (cs:=[.bool false,.bool false,.bool false,.bool false,.bool false,.bool false]) Cls.made rfl rfl rfl underlying251 rfl (by kernel_rfl)) rfl ⟨rfl,(Below.refl _ w).alloc (Nat.le_refl _) _⟩
 ):p:=h
structure Cd where
 o:Int
 d:Int
 a:Int
 b:Int
 i:Int
 t:Int
 deriving DecidableEq,Inhabited
def clO(o:Int):Int:=if o<0∨27<o then 8 else if o=0 then 0 else if o=1 then 1 else if o≤17 then 2 else if o≤20 then 3 else if o≤23 then 4 else if o=24 then 5 else if o=25 then 6 else 7
def fdD(k:Int):Bool:=decide (k≤3)
def fdA(k:Int):Bool:=k==1||(k==2||(k==3||(k==4||k==6)))
def fdB(k:Int):Bool:=k==2||k==4
def fdI(k:Int):Bool:=k==0||(k==3||k==4)
def fdT(k:Int):Bool:=k==5||k==6
def fdM(k:Int):Bool:=k==3||k==4
def fdO(k:Int):Bool:=decide (k≤7)
theorem R8(o:Int):(o=0∧clO o=0)∨(o=1∧clO o=1)∨(2≤o∧o≤17∧clO o=2)∨(18≤o∧o≤20∧clO o=3)∨(21≤o∧o≤23∧clO o=4)∨(o=24∧clO o=5)∨(o=25∧clO o=6)∨((o=26∨o=27)∧clO o=7)∨(o<0∧clO o=8)∨(27<o∧clO o=8):=by
 unfold clO;by_cases h:o<0∨27<o
 ·rw[if_pos h];omega
 rw[if_neg h];by_cases h0:o=0
 ·rw[if_pos h0];omega
 rw[if_neg h0];by_cases h1:o=1
 ·rw[if_pos h1];omega
 rw[if_neg h1];by_cases h2:o≤17
 ·rw[if_pos h2];omega
 rw[if_neg h2];by_cases h3:o≤20
 ·rw[if_pos h3];omega
 rw[if_neg h3];by_cases h4:o≤23
 ·rw[if_pos h4];omega
 rw[if_neg h4];by_cases h5:o=24
 ·rw[if_pos h5];omega
 rw[if_neg h5];by_cases h6:o=25
 ·rw[if_pos h6];omega
 rw[if_neg h6];omega
def wiN(n:Int)(asked:Bool)(lo hi:Int):Bool:=if asked=true then decide (lo≤n)&&decide (n<hi)else n==0
def I9(regs nb:Int)(x:Cd):Bool:=
 let k:=clO x.o
 fdO k&&(wiN x.d (fdD k) 0 regs&&(wiN x.a (fdA k) (if fdM k=true then -1 else 0) regs&&(wiN x.b (fdB k) 0 regs&&(wiN x.t (fdT k) 0 nb&&(fdI k||x.i==0)))))
def N1(o:Int):Bool:=o==24||(o==26||o==27)
theorem A0B(o:Int)(w:World):Calls prog 203 #[.int .i64 o] w fun e w'=>e= .returned (.tuple #[.agg #[.bool (fdD (clO o)),.bool (fdA (clO o)),.bool (fdB (clO o)),.bool (fdI (clO o)),.bool (fdT (clO o)),.bool (fdM (clO o))],.bool (fdO (clO o))])∧Below w.heap.size w w':=by
 rcases R8 o with⟨rfl,-⟩|⟨rfl,-⟩|⟨h1,h2,e⟩|⟨h1,h2,e⟩|⟨h1,h2,e⟩|⟨rfl,-⟩|⟨rfl,-⟩|⟨rfl|rfl,-⟩|⟨h1,e⟩|⟨h1,e⟩
 ·go_enter func203,ntmps203;go_wp2_with fail
  refine bodyPost_ret (v:=.tuple #[.agg #[.bool true,.bool false,.bool false,.bool true,.bool false,.bool false],.bool true]) (Cls.res2 (cs:=[.bool true,.bool false,.bool false,.bool true,.bool false,.bool false]) Cls.made rfl rfl rfl underlying251 rfl (by kernel_rfl)) rfl ⟨rfl,(Below.refl _ w).alloc (Nat.le_refl _) _⟩
 ·go_enter func203,ntmps203;go_wp2_with fail
  refine bodyPost_ret (v:=.tuple #[.agg #[.bool true,.bool true,.bool false,.bool false,.bool false,.bool false],.bool true]) (Cls.res2 (cs:=[.bool true,.bool true,.bool false,.bool false,.bool false,.bool false]) Cls.made rfl rfl rfl underlying251 rfl (by kernel_rfl)) rfl ⟨rfl,(Below.refl _ w).alloc (Nat.le_refl _) _⟩
 ·rw[e];have e0:(o==0)=false:=by simp;omega
  have e1:(o==1)=false:=by simp;omega
  have e24:(o==24)=false:=by simp;omega
  have e25:(o==25)=false:=by simp;omega
  have e26:(o==26)=false:=by simp;omega
  have e27:(o==27)=false:=by simp;omega
  have g2:decide (2≤o)=true:=by simp;omega
  have l17:decide (o≤17)=true:=by simp;omega
  have g18:decide (18≤o)=false:=by simp;omega
  have g21:decide (21≤o)=false:=by simp;omega
  clear h1 h2 e;go_enter func203,ntmps203;go_wp2_with fail
  refine bodyPost_ret (v:=.tuple #[.agg #[.bool true,.bool true,.bool true,.bool false,.bool false,.bool false],.bool true]) (Cls.res2 (cs:=[.bool true,.bool true,.bool true,.bool false,.bool false,.bool false]) Cls.made rfl rfl rfl underlying251 rfl (by kernel_rfl)) rfl ⟨rfl,(Below.refl _ w).alloc (Nat.le_refl _) _⟩
 ·rw[e];have e0:(o==0)=false:=by simp;omega
  have e1:(o==1)=false:=by simp;omega
  have e24:(o==24)=false:=by simp;omega
  have e25:(o==25)=false:=by simp;omega
  have e26:(o==26)=false:=by simp;omega
  have e27:(o==27)=false:=by simp;omega
  have g2:decide (2≤o)=true:=by simp;omega
  have l17:decide (o≤17)=false:=by simp;omega
  have g18:decide (18≤o)=true:=by simp;omega
  have l20:decide (o≤20)=true:=by simp;omega
  have g21:decide (21≤o)=false:=by simp;omega
  clear h1 h2 e;go_enter func203,ntmps203;go_wp2_with fail
  refine bodyPost_ret (v:=.tuple #[.agg #[.bool true,.bool true,.bool false,.bool true,.bool false,.bool true],.bool true]) (Cls.res2 (cs:=[.bool true,.bool true,.bool false,.bool true,.bool false,.bool true]) Cls.made rfl rfl rfl underlying251 rfl (by kernel_rfl)) rfl ⟨rfl,(Below.refl _ w).alloc (Nat.le_refl _) _⟩
 ·rw[e];have e0:(o==0)=false:=by simp;omega
  have e1:(o==1)=false:=by simp;omega
  have e24:(o==24)=false:=by simp;omega
  have e25:(o==25)=false:=by simp;omega
  have e26:(o==26)=false:=by simp;omega
  have e27:(o==27)=false:=by simp;omega
  have g2:decide (2≤o)=true:=by simp;omega
  have l17:decide (o≤17)=false:=by simp;omega
  have g18:decide (18≤o)=true:=by simp;omega
  have l20:decide (o≤20)=false:=by simp;omega
  have g21:decide (21≤o)=true:=by simp;omega
  have l23:decide (o≤23)=true:=by simp;omega
  clear h1 h2 e;go_enter func203,ntmps203;go_wp2_with fail
  refine bodyPost_ret (v:=.tuple #[.agg #[.bool false,.bool true,.bool true,.bool true,.bool false,.bool true],.bool true]) (Cls.res2 (cs:=[.bool false,.bool true,.bool true,.bool true,.bool false,.bool true]) Cls.made rfl rfl rfl underlying251 rfl (by kernel_rfl)) rfl ⟨rfl,(Below.refl _ w).alloc (Nat.le_refl _) _⟩
 ·go_enter func203,ntmps203;go_wp2_with fail
  refine bodyPost_ret (v:=.tuple #[.agg #[.bool false,.bool false,.bool false,.bool false,.bool true,.bool false],.bool true]) (Cls.res2 (cs:=[.bool false,.bool false,.bool false,.bool false,.bool true,.bool false]) Cls.made rfl rfl rfl underlying251 rfl (by kernel_rfl)) rfl ⟨rfl,(Below.refl _ w).alloc (Nat.le_refl _) _⟩
 ·go_enter func203,ntmps203;go_wp2_with fail
  refine bodyPost_ret (v:=.tuple #[.agg #[.bool false,.bool true,.bool false,.bool false,.bool true,.bool false],.bool true]) (Cls.res2 (cs:=[.bool false,.bool true,.bool false,.bool false,.bool true,.bool false]) Cls.made rfl rfl rfl underlying251 rfl (by kernel_rfl)) rfl ⟨rfl,(Below.refl _ w).alloc (Nat.le_refl _) _⟩
 ·exact A8o
 ·exact A8o
 ·rw[e];have e0:(o==0)=false:=by simp;omega
  have e1:(o==1)=false:=by simp;omega
  have e24:(o==24)=false:=by simp;omega
  have e25:(o==25)=false:=by simp;omega
  have e26:(o==26)=false:=by simp;omega
  have e27:(o==27)=false:=by simp;omega
  have g2:decide (2≤o)=false:=by simp;omega
  have g18:decide (18≤o)=false:=by simp;omega
  have g21:decide (21≤o)=false:=by simp;omega
  clear h1 e;exact A8p
 ·rw[e];have e0:(o==0)=false:=by simp;omega
  have e1:(o==1)=false:=by simp;omega
  have e24:(o==24)=false:=by simp;omega
  have e25:(o==25)=false:=by simp;omega
  have e26:(o==26)=false:=by simp;omega
  have e27:(o==27)=false:=by simp;omega
  have g2:decide (2≤o)=true:=by simp;omega
  have l17:decide (o≤17)=false:=by simp;omega
  have g18:decide (18≤o)=true:=by simp;omega
  have l20:decide (o≤20)=false:=by simp;omega
  have g21:decide (21≤o)=true:=by simp;omega
  have l23:decide (o≤23)=false:=by simp;omega
  clear h1 e;exact A8p
theorem A9d(o:Int)(w:World):Calls prog 42 #[.int .i64 o] w fun e w'=>e= .returned (.tuple #[.bool (fdD (clO o)),.bool (fdA (clO o)),.bool (fdB (clO o)),.bool (fdI (clO o)),.bool (fdT (clO o))])∧w=w':=by
 rcases R8 o with⟨rfl,-⟩|⟨rfl,-⟩|⟨h1,h2,e⟩|⟨h1,h2,e⟩|⟨h1,h2,e⟩|⟨rfl,-⟩|⟨rfl,-⟩|⟨rfl|rfl,-⟩|⟨h1,e⟩|⟨h1,e⟩
 ·go_enter func42,ntmps42;go_wp2_with fail
  exact bodyPost_ret (v:=.tuple #[.bool true,.bool false,.bool false,.bool true,.bool false]) (by simp[results,results42,go_sem]) rfl ⟨rfl,rfl⟩
 ·go_enter func42,ntmps42;go_wp2_with fail
  exact bodyPost_ret (v:=.tuple #[.bool true,.bool true,.bool false,.bool false,.bool false]) (by simp[results,results42,go_sem]) rfl ⟨rfl,rfl⟩
 ·rw[e];have e0:(o==0)=false:=by simp;omega
  have e1:(o==1)=false:=by simp;omega
  have e24:(o==24)=false:=by simp;omega
  have e25:(o==25)=false:=by simp;omega
  have e26:(o==26)=false:=by simp;omega
  have e27:(o==27)=false:=by simp;omega
  have g2:decide (2≤o)=true:=by simp;omega
  have l17:decide (o≤17)=true:=by simp;omega
  have g18:decide (18≤o)=false:=by simp;omega
  have g21:decide (21≤o)=false:=by simp;omega
  clear h1 h2 e;go_enter func42,ntmps42;go_wp2_with fail
  exact bodyPost_ret (v:=.tuple #[.bool true,.bool true,.bool true,.bool false,.bool false]) (by simp[results,results42,go_sem]) rfl ⟨rfl,rfl⟩
 ·rw[e];have e0:(o==0)=false:=by simp;omega
  have e1:(o==1)=false:=by simp;omega
  have e24:(o==24)=false:=by simp;omega
  have e25:(o==25)=false:=by simp;omega
  have e26:(o==26)=false:=by simp;omega
  have e27:(o==27)=false:=by simp;omega
  have g2:decide (2≤o)=true:=by simp;omega
  have l17:decide (o≤17)=false:=by simp;omega
  have g18:decide (18≤o)=true:=by simp;omega
  have l20:decide (o≤20)=true:=by simp;omega
  have g21:decide (21≤o)=false:=by simp;omega
  clear h1 h2 e;go_enter func42,ntmps42;go_wp2_with fail
  exact bodyPost_ret (v:=.tuple #[.bool true,.bool true,.bool false,.bool true,.bool false]) (by simp[results,results42,go_sem]) rfl ⟨rfl,rfl⟩
 ·rw[e];have e0:(o==0)=false:=by simp;omega
  have e1:(o==1)=false:=by simp;omega
  have e24:(o==24)=false:=by simp;omega
  have e25:(o==25)=false:=by simp;omega
  have e26:(o==26)=false:=by simp;omega
  have e27:(o==27)=false:=by simp;omega
  have g2:decide (2≤o)=true:=by simp;omega
  have l17:decide (o≤17)=false:=by simp;omega
  have g18:decide (18≤o)=true:=by simp;omega
  have l20:decide (o≤20)=false:=by simp;omega
  have g21:decide (21≤o)=true:=by simp;omega
  have l23:decide (o≤23)=true:=by simp;omega
  clear h1 h2 e;go_enter func42,ntmps42;go_wp2_with fail
  exact bodyPost_ret (v:=.tuple #[.bool false,.bool true,.bool true,.bool true,.bool false]) (by simp[results,results42,go_sem]) rfl ⟨rfl,rfl⟩
 ·go_enter func42,ntmps42;go_wp2_with fail
  exact bodyPost_ret (v:=.tuple #[.bool false,.bool false,.bool false,.bool false,.bool true]) (by simp[results,results42,go_sem]) rfl ⟨rfl,rfl⟩
 ·go_enter func42,ntmps42;go_wp2_with fail
  exact bodyPost_ret (v:=.tuple #[.bool false,.bool true,.bool false,.bool false,.bool true]) (by simp[results,results42,go_sem]) rfl ⟨rfl,rfl⟩
 ·exact A5q
 ·exact A5q
 ·rw[e];have e0:(o==0)=false:=by simp;omega
  have e1:(o==1)=false:=by simp;omega
  have e24:(o==24)=false:=by simp;omega
  have e25:(o==25)=false:=by simp;omega
  have e26:(o==26)=false:=by simp;omega
  have e27:(o==27)=false:=by simp;omega
  have g2:decide (2≤o)=false:=by simp;omega
  have g18:decide (18≤o)=false:=by simp;omega
  have g21:decide (21≤o)=false:=by simp;omega
  clear h1 e;exact A5q
 ·rw[e];have e0:(o==0)=false:=by simp;omega
  have e1:(o==1)=false:=by simp;omega
  have e24:(o==24)=false:=by simp;omega
  have e25:(o==25)=false:=by simp;omega
  have e26:(o==26)=false:=by simp;omega
  have e27:(o==27)=false:=by simp;omega
  have g2:decide (2≤o)=true:=by simp;omega
  have l17:decide (o≤17)=false:=by simp;omega
  have g18:decide (18≤o)=true:=by simp;omega
  have l20:decide (o≤20)=false:=by simp;omega
  have g21:decide (21≤o)=true:=by simp;omega
  have l23:decide (o≤23)=false:=by simp;omega
  clear h1 e;exact A5q
theorem A6O(o:Int)(w:World):Calls prog 43 #[.int .i64 o] w fun e w'=>e= .returned (.bool (decide (18≤o)&&decide (o≤23)))∧w=w':=by
 cases h1:decide (18≤o)<;>cases h2:decide (o≤23)<;>(
  go_enter func43,ntmps43;go_wp2_with fail
  go_ret;exact⟨rfl,rfl⟩)
theorem A7c(o:Int):(decide (18≤o)&&decide (o≤23))=fdM (clO o):=by
 rcases R8 o with⟨rfl,-⟩|⟨rfl,-⟩|⟨h1,h2,e⟩|⟨h1,h2,e⟩|⟨h1,h2,e⟩|⟨rfl,-⟩|⟨rfl,-⟩|⟨rfl|rfl,-⟩|⟨h1,e⟩|⟨h1,e⟩
 all_goals(first|rfl|(rw[e];simp[fdM];omega))
theorem A6P(o:Int)(w:World):Calls prog 141 #[.int .i64 o] w fun e w'=>e= .returned (.bool (N1 o))∧w=w':=by
 unfold N1;cases h1:(o==24)<;>cases h2:(o==26)<;>cases h3:(o==27)<;>(
  go_enter func141,ntmps141;go_wp2_with fail
  go_ret;exact⟨rfl,rfl⟩)
theorem A4x(o:Int)(w:World):Calls prog 74 #[.int .i64 o] w fun e w'=>e= .returned (.bool (N1 o))∧w=w':=by
 unfold N1;cases h1:(o==24)<;>cases h2:(o==26)<;>cases h3:(o==27)<;>(
  go_enter func74,ntmps74;go_wp2_with fail
  go_ret;exact⟨rfl,rfl⟩)
theorem d6(n lo hi:Int)(asked:Bool)(w:World):Calls prog 204 #[.int .i64 n,.bool asked,.int .i64 lo,.int .i64 hi] w fun e w'=>e= .returned (.bool (wiN n asked lo hi))∧w=w':=by
 unfold wiN;cases asked
 ·go_enter func204,ntmps204;go_wp2_with fail
  go_ret;exact⟨rfl,rfl⟩
 ·simp only[if_true];cases h1:decide (lo≤n)<;>cases h2:decide (n<hi)<;>(
   go_enter func204,ntmps204;go_wp2_with fail
   go_ret;exact⟨rfl,rfl⟩)
theorem G2(n lo hi:Int)(w:World):Calls prog 41 #[.int .i64 n,.int .i64 lo,.int .i64 hi] w fun e w'=>e= .returned (.bool (decide (lo≤n)&&decide (n≤hi)))∧w=w':=by
 cases h1:decide (lo≤n)<;>cases h2:decide (n≤hi)<;>(
  go_enter func41,ntmps41;go_wp2_with fail
  go_ret;exact⟨rfl,rfl⟩)
theorem q1z{p:Prop}(h:p:=by
 go_enter func140,ntmps140;go_upto_region 60 with(first|(go_at_call 203;(with_reducible refine(C1.out _).mono ?_);rintro e w2 ⟨rfl,hb2⟩;have HC2:=HC.out.below hs hb2;have x1:=HC2.at 1 (.int .i64 d) rfl;have x2:=HC2.at 2 (.int .i64 a) rfl;have x3:=HC2.at 3 (.int .i64 b) rfl;have x4:=HC2.at 4 (.int .u32 i) rfl;have x5:=HC2.at 5 (.int .i64 t) rfl;have hl2:w.heap.size<w2.heap.size:=Nat.lt_of_lt_of_le hs hb2.size;have hne:¬w.heap.size=w2.heap.size:=(by omega);have HB2:=hid (fun ob=>(B7 BB.out (by omega) hb2).alloc (by omega) ob);clear HC2 hb2 x0)|(go_at_call 204;(first|(with_reducible refine(C2.out _).mono ?_)|(with_reducible refine(C3.out _).mono ?_)|(with_reducible refine(C4.out _).mono ?_)|(with_reducible refine(C5.out _).mono ?_));rintro e w' ⟨rfl,rfl⟩))
 go_ret;exact⟨rfl,HB2.out _⟩
 ):p:=h
theorem q4z{p:Prop}(h:p:=by
 go_upto_region 60 with(first|(go_at_call 203;(with_reducible refine(C1.out _).mono ?_);rintro e w2 ⟨rfl,hb2⟩;have HC2:=HC.out.below hs hb2;have x1:=HC2.at 1 (.int .i64 d) rfl;have x2:=HC2.at 2 (.int .i64 a) rfl;have x3:=HC2.at 3 (.int .i64 b) rfl;have x4:=HC2.at 4 (.int .u32 i) rfl;have x5:=HC2.at 5 (.int .i64 t) rfl;have hl2:w.heap.size<w2.heap.size:=Nat.lt_of_lt_of_le hs hb2.size;have hne:¬w.heap.size=w2.heap.size:=(by omega);have HB2:=hid (fun ob=>(B7 BB.out (by omega) hb2).alloc (by omega) ob);clear HC2 hb2 x0)|(go_at_call 204;(first|(with_reducible refine(C2.out _).mono ?_)|(with_reducible refine(C3.out _).mono ?_)|(with_reducible refine(C4.out _).mono ?_)|(with_reducible refine(C5.out _).mono ?_));rintro e w' ⟨rfl,rfl⟩))
 go_ret;exact⟨rfl,HB2.out _⟩
 ):p:=h
def ncL(x:Cd):List Value:=[.int .i64 x.o,.int .i64 x.d,.int .i64 x.a,.int .i64 x.b,.int .u32 x.i,.int .i64 x.t]
def ncV(x:Cd):Value:=.agg #[.int .i64 x.o,.int .i64 x.d,.int .i64 x.a,.int .i64 x.b,.int .u32 x.i,.int .i64 x.t]
set_option maxHeartbeats 2000000 in
theorem A6Q(x:Cd)(regs nb:Int)(w:World):Calls prog 140 #[ncV x,.int .i64 regs,.int .i64 nb] w fun e w'=>e= .returned (.bool (I9 regs nb x))∧Below w.heap.size w w':=by
 obtain⟨o,d,a,b,i,t⟩:=x;show Calls prog 140 #[.agg #[.int .i64 o,.int .i64 d,.int .i64 a,.int .i64 b,.int .u32 i,.int .i64 t],.int .i64 regs,.int .i64 nb] w _
 unfold I9;simp only;have C1:=hid (A0B o);generalize clO o=k at*
 generalize fdD k=pD at*
 generalize fdA k=pA at*
 generalize fdB k=pB at*
 generalize fdI k=pI at*
 generalize fdT k=pT at*
 generalize fdM k=pM at*
 generalize fdO k=ok at*
 have C2:=hid (d6 d 0 regs pD);have C3:=hid (d6 a (if pM=true then -1 else 0) regs pA);have C4:=hid (d6 b 0 regs pB);have C5:=hid (d6 t 0 nb pT);generalize wiN d pD 0 regs=B1 at*
 generalize wiN a pA (if pM=true then -1 else 0) regs=B2 at*
 generalize wiN b pB 0 regs=B3 at*
 generalize wiN t pT 0 nb=B4 at*
 obtain⟨W1,hW1⟩:∃W,w.alloc (.cells #[.int .i64 o,.int .i64 d,.int .i64 a,.int .i64 b,.int .u32 i,.int .i64 t] 61)=W:=⟨_,rfl⟩
 have BB:Hid (Below w.heap.size w W1):=by rw[←hW1];exact(Below.refl _ _).alloc (Nat.le_refl _) _
 have hs:w.heap.size<W1.heap.size:=by rw[←hW1];simp
 have HC:Hid (Cls W1 w.heap.size [.int .i64 o,.int .i64 d,.int .i64 a,.int .i64 b,.int .u32 i,.int .i64 t]):=by rw[←hW1];exact Cls.made
 have x0:=HC.out.at 0 (.int .i64 o) rfl;cases pM
 all_goals
  simp only[if_true,if_false,Bool.false_eq_true]at C3;cases ok
  ·go_enter func140,ntmps140;exact q4z
  cases B1
  ·go_enter func140,ntmps140;exact q4z
  cases B2
  ·go_enter func140,ntmps140;exact q4z
  cases B3
  ·go_enter func140,ntmps140;exact q4z
  cases B4
  ·go_enter func140,ntmps140;exact q4z
  cases pI
  ·by_cases h0:i=0
   ·have h1:(i==0)=true:=by simpa using h0
    rw[h1];clear h0;exact q1z
   ·have h1:(i==0)=false:=by simpa using h0
    have h2:decide (i=0)=false:=by simpa using h0
    rw[h1];clear h0 h2;exact q1z
  ·exact q1z
end Go.Proofs.YtajljbmeaeeknaaGreat
