/- -/
import Derived.Deep.QuietTactic
import Derived.Deep.RegionHeld3
import Derived.BigGuardPart
import Derived.Laws.EntriesVeiled
import Derived.WalkSpells
import Derived.WalkLawsBesides
import Derived.Deep.MidRow
import Derived.Laws.CopyOwn
import Derived.Laws.ResultCell
import Derived.Laws.StructEq
import Derived.ChangeKeysEq
import Derived.Deep.Cut
import Derived.BigQuiet
import Derived.Test.YtajljbmeaeeknaaGreatA1
open Go.Proofs.Tryz
namespace Go.Proofs.YtajljbmeaeeknaaGreat
open Go.RowKit
set_option linter.unusedVariables false
set_option linter.unusedSimpArgs false
theorem L6{k:IntKind}{a b:Int}(h:a=b):Ending.returned (.int k a)= .returned (.int k b):=by rw[h]
theorem A0X{a b:Bool}(h:a=b):Ending.returned (.bool a)= .returned (.bool b):=by rw[h]
def Dr(w w':World):Prop:=∃n,w'=w.drewN n
theorem Dr.refl(w:World):Dr w w:=⟨0,rfl⟩
theorem Dr.drew{w w':World}(h:Dr w w')(n:Nat):Dr w (w'.drewN n):=by
 obtain⟨m,rfl⟩:=h;exact⟨m+n,World.drewN_drewN _ _ _⟩
theorem Dr.below{w w':World}(h:Dr w w')(B:Nat):Below B w w':=by
 obtain⟨n,rfl⟩:=h;exact⟨rfl,rfl,rfl,Nat.le_refl _,fun _ _=>rfl⟩
theorem Dr.trans{w w' w'':World}(h:Dr w w')(h':Dr w' w''):Dr w w'':=by
 obtain⟨m,rfl⟩:=h';exact h.drew m
theorem E9{P:Program}{f:FuncId}{args:Array Value}{w:World}{n:Nat}{v:Value}(h:Calls P f args (w.drewN n) fun e w'=>e= .returned v∧w.drewN n=w'):
  Calls P f args (w.drewN n) fun e w''=>e= .returned v∧∃m,w''=w.drewN m:=h.mono fun _ _ ⟨he,hm⟩=>⟨he,n,hm.symm⟩
def Since(w0 w:World):Prop:=Below w0.heap.size w0 w
theorem Since.refl(w:World):Since w w:=Below.refl _ _
theorem Since.drewN{w0 w:World}(h:Since w0 w)(n:Nat):Since w0 (w.drewN n):=E1 h n
theorem Since.drew{w0 w:World}(h:Since w0 w):Since w0 w.drew:=Below.drew h
theorem Since.dr{w0 w w':World}(h:Since w0 w)(hd:Dr w w'):Since w0 w':=A7 h (hd.below _)
theorem Since.next{w0 w w':World}(h:Since w0 w)(hb:Below w.heap.size w w'):Since w0 w':=A7 h hb
theorem Since.cell{w0 w:World}(h:Since w0 w){b o:Nat}{v:Value}(hc:w0.cell? ⟨b,o,none⟩=some v):w.cell? ⟨b,o,none⟩=some v:=A0 h (F9 hc) hc
theorem Since.free{w0 w:World}(h:Since w0 w){b o:Nat}(hb:b<w0.heap.size)(hf:w0.frozen? ⟨b,o,none⟩=false):w.frozen? ⟨b,o,none⟩=false:=by rw[←hf];exact Below.frozen (p:=⟨b,o,none⟩) h hb
theorem G3{w:World}{ob:Obj}{b o:Nat}{v:Value}(h:w.cell? ⟨b,o,none⟩=some v):(w.alloc ob).cell? ⟨b,o,none⟩=some v:=A0 ((Below.refl _ _).alloc (Nat.le_refl _) _) (F9 h) h
theorem L5{w:World}{B j b o:Nat}{u v:Value}(h:w.cell? ⟨b,o,none⟩=some v)(hne:¬(b=B∧o=j)):(w.setCell ⟨B,j,none⟩ u).cell? ⟨b,o,none⟩=some v:=by
 rw[World.cell?_setCell_other _ _ _ _ (by intro e;cases e;exact hne ⟨rfl,rfl⟩)];exact h
theorem getD_set_ne{l:List Int}{k j:Nat}{x:Int}(h:k≠j):(l.set k x).getD j 0=l.getD j 0:=by
 rw[List.getD_eq_getElem?_getD,List.getD_eq_getElem?_getD,List.getElem?_set_ne h]
theorem Ints.nil(k:IntKind)(w:World):Ints k w (.slice none 0 0) []:=⟨none,0,rfl,Nat.le_refl _,⟨by simp,by omega⟩,fun _=>rfl,fun i hi=>absurd hi (by simp)⟩
theorem Ints.at{k:IntKind}{w:World}{v:Value}{xs:List Int}(h:Ints k w v xs){j:Nat}(hj:j<xs.length):∃b q c,v= .slice (some ⟨b,q,none⟩) xs.length c∧xs.length≤c∧b<w.heap.size∧w.cell? ⟨b,q+j,none⟩=some (.int k (xs.getD j 0)):=by
 obtain⟨a,c,rfl,h1,h2,_,h4⟩:=h;obtain⟨b,q,rfl,h5,h6⟩:=h4 j hj;rw[Nat.mul_one]at h6;exact⟨b,q,c,rfl,h1,h5,h6⟩
theorem Ints.shape{k:IntKind}{w:World}{v:Value}{xs:List Int}(h:Ints k w v xs):∃a c,v= .slice a xs.length c∧xs.length≤c∧xs.length≤140737488351232:=by
 obtain⟨a,c,rfl,h1,h2,_⟩:=h;exact⟨a,c,rfl,h1,h2.1⟩
theorem Ints.row{k:IntKind}{w:World}{a:Option Addr}{n c:Nat}{xs:List Int}(h:Ints k w (.slice a n c) xs)(h0:0<xs.length):∃b o,a=some ⟨b,o,none⟩∧b<w.heap.size∧∀i,i<xs.length→w.cell? ⟨b,o+i,none⟩=some (.int k (xs.getD i 0)):=by
 obtain⟨a',c',e,_,_,_,hc⟩:=h;cases e;obtain⟨b,o,rfl,hb,_⟩:=hc 0 h0;refine⟨b,o,rfl,hb,fun i hi=>?_⟩;obtain⟨b',o',e2,_,hd⟩:=hc i hi;cases e2;rw[Nat.mul_one]at hd;exact hd
def OInts(k:IntKind)(w:World)(B:Nat)(xs:List Int):Prop:=
 B<w.heap.size∧∀i,i<xs.length→w.cell? ⟨B,i,none⟩=some (.int k (xs.getD i 0))∧w.frozen? ⟨B,i,none⟩=false
theorem OInts.cell{k:IntKind}{w:World}{B:Nat}{xs:List Int}(h:OInts k w B xs){i:Nat}(hi:i<xs.length):w.cell? ⟨B,i,none⟩=some (.int k (xs.getD i 0)):=(h.2 i hi).1
theorem OInts.free{k:IntKind}{w:World}{B:Nat}{xs:List Int}(h:OInts k w B xs){i:Nat}(hi:i<xs.length):w.frozen? ⟨B,i,none⟩=false:=(h.2 i hi).2
theorem OInts.below{k:IntKind}{w w':World}{B:Nat}{xs:List Int}(h:OInts k w B xs)(hb:Below w.heap.size w w'):OInts k w' B xs:=
 ⟨Nat.lt_of_lt_of_le h.1 hb.size,fun i hi=>⟨by rw[←h.cell hi];exact hb.cell (p:=⟨B,i,none⟩) h.1,by rw[←h.free hi];exact hb.frozen (p:=⟨B,i,none⟩) h.1⟩⟩
theorem OInts.alloc{k:IntKind}{w:World}{B:Nat}{xs:List Int}(h:OInts k w B xs)(ob:Obj):OInts k (w.alloc ob) B xs:=h.below ((Below.refl _ _).alloc (Nat.le_refl _) _)
theorem OInts.drewN{k:IntKind}{w:World}{B:Nat}{xs:List Int}(h:OInts k w B xs)(n:Nat):OInts k (w.drewN n) B xs:=h
theorem OInts.set{k:IntKind}{w:World}{B:Nat}{xs:List Int}(h:OInts k w B xs){i:Nat}(hi:i<xs.length)(x:Int):OInts k (w.setCell ⟨B,i,none⟩ (.int k x)) B (xs.set i x):=by
 refine⟨by simpa using h.1,fun j hj=>?_⟩;rw[List.length_set]at hj;refine⟨?_,by rw[World.frozen?_setCell];exact h.free hj⟩;by_cases e:i=j
 ·subst e;rw[World.cell?_setCell_same _ _ _ (h.cell hi),List.getD_eq_getElem?_getD,List.getElem?_set_self hi];rfl
 ·rw[World.cell?_setCell_other _ _ _ _ (by intro hh;cases hh;exact e rfl),h.cell hj,List.getD_eq_getElem?_getD,List.getD_eq_getElem?_getD,List.getElem?_set_ne e]
theorem OInts.ints{k:IntKind}{w:World}{B:Nat}{xs:List Int}(h:OInts k w B xs)(hl:xs.length≤140737488351232):Ints k w (.slice (some ⟨B,0,none⟩) xs.length xs.length) xs:=
 ⟨some ⟨B,0,none⟩,xs.length,rfl,Nat.le_refl _,⟨hl,by omega⟩,(fun hh=>by cases hh),fun i hi=>⟨B,0,rfl,h.1,by rw[Nat.mul_one,Nat.zero_add];exact h.cell hi⟩⟩
theorem Ints.newsK{k:IntKind}{w:World}{ad:Addr}{n c:Nat}{xs:List Int}(h:Ints k w (.slice (some ad) n c) xs):∀(j:Nat) (u:Value),(xs.map (Value.int k))[j]? =some u→w.cell? (ad.add j)=some u:=by
 intro j u hu;rw[List.getElem?_map]at hu;cases e:xs[j]? with
 |none=>rw[e]at hu;cases hu
 |some y=>
  rw[e]at hu;cases hu;have hj:j<xs.length:=by
   rcases Nat.lt_or_ge j xs.length with h|h
   ·exact h
   ·rw[List.getElem?_eq_none h]at e;cases e
  obtain⟨a,c',e',_,_,_,h4⟩:=h;cases e';obtain⟨b',o',e',h5,h6⟩:=h4 j hj;cases e';rw[Nat.mul_one,List.getD_eq_getElem?_getD,e]at h6;by_cases hj0:j=0
  ·subst hj0;exact h6
  ·simpa[Addr.add,hj0]using h6
end Go.Proofs.YtajljbmeaeeknaaGreat
namespace Go.Proofs.YtajljbmeaeeknaaGreat
open Go.RowKit Go.Maps
set_option linter.unusedVariables false
set_option linter.unusedSimpArgs false
theorem B3k{p:Prop}(h:p:=by
 intro j v hj;have hc:=h k _ (List.getElem?_eq_getElem hk);by_cases e:k=j
 ·subst e;rw[List.getElem?_set_self hk]at hj;cases hj;exact⟨World.cell?_setCell_same _ _ _ hc.1,by rw[World.frozen?_setCell];exact hc.2⟩
 ·rw[List.getElem?_set_ne e]at hj;have:=h j v hj;exact⟨by rw[World.cell?_setCell_other _ _ _ _ (by intro hh;cases hh;exact e rfl)];exact this.1,by rw[World.frozen?_setCell];exact this.2⟩
 ):p:=h
def Byt(l:List Int):Prop:=∀i,0≤l.getD i 0∧l.getD i 0<256
structure Mac where
 r:List Int
 f:Int
 a:Int
 m:List Int
 e:Int
def B4(c:Mac)(mv:Value):List Value:=c.r.map (Value.int .u32)++[.int .i64 c.f,.int .u32 c.a,mv,.int .i64 c.e]
def CellsAt(w:World)(b:Nat)(cs:List Value):Prop:=∀k v,cs[k]? =some v→w.cell? ⟨b,k,none⟩=some v∧w.frozen? ⟨b,k,none⟩=false
theorem CellsAt.set{w:World}{b:Nat}{cs:List Value}(h:CellsAt w b cs){k:Nat}(hk:k<cs.length)(u:Value):CellsAt (w.setCell ⟨b,k,none⟩ u) b (cs.set k u):=by
 exact B3k
theorem CellsAt.other{w:World}{b b' k:Nat}{cs:List Value}(h:CellsAt w b cs)(hb:b≠b')(u:Value):CellsAt (w.setCell ⟨b',k,none⟩ u) b cs:=by
 intro j v hj;have:=h j v hj;exact⟨by rw[World.cell?_setCell_other _ _ _ _ (by intro hh;cases hh;exact hb rfl)];exact this.1,by rw[World.frozen?_setCell];exact this.2⟩
theorem CellsAt.lt{w:World}{b:Nat}{cs:List Value}(h:CellsAt w b cs)(h0:0<cs.length):b<w.heap.size:=F9 (h 0 _ (List.getElem?_eq_getElem h0)).1
theorem CellsAt.block{w w':World}{b:Nat}{cs:List Value}(h:CellsAt w b cs)(hb:w'.heap[b]? =w.heap[b]?):CellsAt w' b cs:=fun k v hk=>by
 have:=h k v hk;exact⟨by rw[←this.1];exact World.cell?_of_block (w:=w) hb,by rw[←this.2];exact World.frozen?_of_block (w:=w) hb⟩
theorem b8(w:World)(cells:Array Value)(t:TypeId):(w.alloc (.cells cells t)).heap[w.heap.size]? =some (.cells cells t (0,0)):=by
 show(w.heap.push _)[w.heap.size]? =_
 exact Array.getElem?_push_size
theorem U5{w:World}{b:Nat}{cs:List Value}{t:TypeId}(h:w.heap[b]? =some (.cells cs.toArray t (0,0))):CellsAt w b cs:=by
 intro k v hk;refine⟨?_,?_⟩
 ·simp[World.cell?,h,hk]
 ·simp[World.frozen?,h]
theorem CellsAt.setCells{w:World}{b:Nat}{cs ds:List Value}(h:CellsAt w b cs)(hl:ds.length=cs.length):CellsAt (w.setCells b 0 ds) b ds:=by
 intro k v hk;have hkl:k<ds.length:=(List.getElem?_eq_some_iff.1 hk).1;have hs:∀j,j<ds.length→(w.cell? ⟨b,0+j,none⟩).isSome=true:=fun j hj=>by
  rw[Nat.zero_add,(h j _ (List.getElem?_eq_getElem (by omega))).1];rfl
 have h1:=World.cell?_setCells_in b ds 0 w hs k hkl;rw[Nat.zero_add]at h1;refine⟨by rw[h1,←hk,List.getElem?_eq_getElem hkl],?_⟩;rw[World.frozen?_setCells];exact(h k _ (List.getElem?_eq_getElem (by omega))).2
theorem R2(b:Nat):∀(vs:List Value) (o:Nat) (w:World),(w.setCells b o vs).heap.size=w.heap.size
 |[],_,_=>rfl
 |v::r,o,w=>by rw[World.setCells,R2 b r];simp[World.setCell]
theorem OInts.cellsO{k:IntKind}{w:World}{D b:Nat}{xs:List Int}(h:OInts k w D xs)(hD:D≠b)(vs:List Value):OInts k (w.setCells b 0 vs) D xs:=
 ⟨by rw[R2];exact h.1,fun i hi=>⟨by rw[World.cell?_setCells_out b vs 0 w _ (fun e _=>absurd e hD)];exact h.cell hi,by rw[World.frozen?_setCells];exact h.free hi⟩⟩
theorem CellsAt.range{w:World}{b:Nat}{cs:List Value}(h:CellsAt w b cs):w.rangeAt b 0 cs:=fun j v hj=>by rw[Nat.zero_add];exact(h j v hj).1
theorem CellsAt.there{w:World}{b:Nat}{cs ds:List Value}(h:CellsAt w b cs)(hl:ds.length=cs.length):w.there b 0 ds.toArray.size:=fun j hj=>by
 have:=h j _ (List.getElem?_eq_getElem (by rw[←hl];simpa using hj));rw[Nat.zero_add];exact⟨by rw[this.1];rfl,this.2⟩
theorem CellsAt.below{w w':World}{b:Nat}{cs:List Value}(h:CellsAt w b cs)(h0:0<cs.length)(hb:Below w.heap.size w w'):CellsAt w' b cs:=h.block (hb.block b (h.lt h0))
theorem G9(w:World)(cs:List Value)(t:TypeId):Below w.heap.size w (w.alloc (.cells cs.toArray t))∧CellsAt (w.alloc (.cells cs.toArray t)) w.heap.size cs:=
 ⟨(Below.refl _ _).alloc (Nat.le_refl _) _,U5 (t:=t) (b8 w _ t)⟩
theorem A4R(w:World)(old:Array Value)(cs:List Value)(t:TypeId):Below w.heap.size w ((w.alloc (.cells old t)).setRow w.heap.size cs.toArray)∧CellsAt ((w.alloc (.cells old t)).setRow w.heap.size cs.toArray) w.heap.size cs∧((w.alloc (.cells old t)).setRow w.heap.size cs.toArray).heap.size=w.heap.size+1:=
 ⟨below_setRow ((Below.refl w.heap.size w).alloc (Nat.le_refl _) _) (Nat.le_refl _) _,U5 (t:=t) (setRow_heap (w.alloc (.cells old t)) w.heap.size old cs.toArray t (0,0) (b8 w old t)),by simp⟩
theorem F8{B b:Nat}{a:World}(hb:B≤b):∀(vs:List Value) (o:Nat) (w:World),Below B a w→Below B a (w.setCells b o vs)
 |[],_,_,h=>h
 |v::r,o,w,h=>F8 hb r (o+1) _ (h.setCell (p:=⟨b,o,none⟩) hb v)
theorem b9{P:Program}{w:World}{b:Nat}{cs:List Value}{ty:TypeId}{d:TypeDesc}(h:CellsAt w b cs)(hu:P.underlying ty=some d)(hd:d.isRow=true)(hi:(P.info? ty).map (·.size)=some cs.length):(loadVar ty ⟨b,0,none⟩).run P w= .ok (.agg cs.toArray) w:=
 run_loadVar_mid w b 0 ty cs d h.range hu hd hi
theorem res1{P:Program}{fn:Func}{p:Tmp}{ty:TypeId}{tmps:Array Value}{w:World}{b:Nat}{cs:List Value}{d:TypeDesc}(hf:fn.results=#[.cell p ty])(hp:tmps.getD p undef= .pointer (some ⟨b,0,none⟩))(h:CellsAt w b cs)(hu:P.underlying ty=some d)(hd:d.isRow=true)(hi:(P.info? ty).map (·.size)=some cs.length):
  (results fn tmps).run P w= .ok (.agg cs.toArray) w:=by
 have hp':tmps[p]?.getD undef= .pointer (some ⟨b,0,none⟩):=by simpa using hp
 simp[results,hf,hp',asAddr,b9 h hu hd hi]
theorem res2{P:Program}{fn:Func}{p u:Tmp}{ty:TypeId}{tmps:Array Value}{w:World}{b:Nat}{cs:List Value}{d:TypeDesc}{v:Value}(hf:fn.results=#[.cell p ty,.tmp u])(hp:tmps.getD p undef= .pointer (some ⟨b,0,none⟩))(hv:tmps.getD u undef=v)(h:CellsAt w b cs)(hu:P.underlying ty=some d)(hd:d.isRow=true)(hi:(P.info? ty).map (·.size)=some cs.length):
  (results fn tmps).run P w= .ok (.tuple #[.agg cs.toArray,v]) w:=by
 rw[results_cell_tmp hf,hp,hv];simp[asAddr,b9 h hu hd hi,Result.andThen]
theorem A3C{P:Program}{fn:Func}{p u u':Tmp}{ty:TypeId}{tmps:Array Value}{w:World}{b:Nat}{cs:List Value}{d:TypeDesc}{v v':Value}(hf:fn.results=#[.cell p ty,.tmp u,.tmp u'])(hp:tmps.getD p undef= .pointer (some ⟨b,0,none⟩))(hv:tmps.getD u undef=v)(hv':tmps.getD u' undef=v')(h:CellsAt w b cs)(hu:P.underlying ty=some d)(hd:d.isRow=true)(hi:(P.info? ty).map (·.size)=some cs.length):
  (results fn tmps).run P w= .ok (.tuple #[.agg cs.toArray,v,v']) w:=by
 have hp':tmps[p]?.getD undef= .pointer (some ⟨b,0,none⟩):=by simpa using hp
 have hv1:tmps[u]?.getD undef=v:=by simpa using hv
 have hv2:tmps[u']?.getD undef=v':=by simpa using hv'
 simp[results,hf,hp',hv1,hv2,asAddr,b9 h hu hd hi,Sem.run_bind,Result.andThen]
structure MOk(c:Mac):Prop where
 rl:c.r.length=32
 rb:∀k,0≤c.r.getD k 0∧c.r.getD k 0<4294967296
 ab:0≤c.a∧c.a<4294967296
 mb:Byt c.m
def MemO(base:Nat)(w:World)(mv:Value)(m:List Int):Prop:=
 (m=[]∧mv= .slice none 0 0)∨∃D cap,mv= .slice (some ⟨D,0,none⟩) m.length cap∧m.length≤cap∧cap≤9223372036854775807∧base≤D∧OInts .u8 w D m
theorem MemO.below{base:Nat}{w w':World}{mv:Value}{m:List Int}(h:MemO base w mv m)(hb:Below w.heap.size w w'):MemO base w' mv m:=
 h.imp id fun⟨D,cap,e,h1,h2,h5,h6⟩=>⟨D,cap,e,h1,h2,h5,h6.below hb⟩
theorem OInts.setO{k:IntKind}{w:World}{D b j:Nat}{xs:List Int}(h:OInts k w D xs)(hD:D≠b)(u:Value):OInts k (w.setCell ⟨b,j,none⟩ u) D xs:=
 ⟨by simpa[World.setCell]using h.1,fun i hi=>⟨by rw[World.cell?_setCell_other _ _ _ _ (by intro hh;cases hh;exact hD rfl)];exact h.cell hi,by rw[World.frozen?_setCell];exact h.free hi⟩⟩
theorem MemO.set{base b j:Nat}{w:World}{mv:Value}{m:List Int}(h:MemO base w mv m)(hb:b<base)(u:Value):MemO base (w.setCell ⟨b,j,none⟩ u) mv m:=
 h.imp id fun⟨D,cap,e,h1,h2,h5,h6⟩=>⟨D,cap,e,h1,h2,h5,h6.setO (by omega) u⟩
theorem MemO.setCells{base b:Nat}{w:World}{mv:Value}{m:List Int}(h:MemO base w mv m)(hb:b<base)(vs:List Value):MemO base (w.setCells b 0 vs) mv m:=
 h.imp id fun⟨D,cap,e,h1,h2,h5,h6⟩=>⟨D,cap,e,h1,h2,h5,h6.cellsO (by omega) vs⟩
theorem MemO.setCellsO{base b:Nat}{w:World}{mv:Value}{m:List Int}(h:MemO base w mv m)(hb:mv.ownBlock≠some b)(vs:List Value):MemO base (w.setCells b 0 vs) mv m:=
 h.imp id fun⟨D,cap,e,h1,h2,h5,h6⟩=>⟨D,cap,e,h1,h2,h5,h6.cellsO (fun e'=>hb (by rw[e,e'];rfl)) vs⟩
theorem MemO.own{base:Nat}{w:World}{mv:Value}{m:List Int}(h:MemO base w mv m)(k:Nat)(hk:mv.ownBlock=some k):base≤k∧k<w.heap.size:=by
 rcases h with⟨_,e⟩|⟨D,cap,e,_,_,h5,h6⟩
 ·rw[e]at hk;cases hk
 ·rw[e]at hk;have:D=k:=by injection hk
  subst this;exact⟨h5,h6.1⟩
theorem MemO.low{base base':Nat}{w:World}{mv:Value}{m:List Int}(h:MemO base w mv m)(hb:base'≤base):MemO base' w mv m:=
 h.imp id fun⟨D,cap,e,h1,h2,h5,h6⟩=>⟨D,cap,e,h1,h2,Nat.le_trans hb h5,h6⟩
theorem MemO.ints{base:Nat}{w:World}{mv:Value}{m:List Int}(h:MemO base w mv m)(hl:m.length≤100000):Ints .u8 w mv m:=by
 rcases h with⟨e,e2⟩|⟨D,cap,e,h1,h2,h5,h6⟩
 ·rw[e,e2];exact⟨none,0,by simp,by simp,by decide,fun _=>rfl,fun i hi=>absurd hi (by simp)⟩
 ·rw[e];exact⟨some ⟨D,0,none⟩,cap,rfl,h1,⟨by omega,by omega⟩,(fun hh=>by cases hh),fun i hi=>⟨D,0,rfl,h6.1,by simpa using h6.cell hi⟩⟩
theorem RowI.memO{w:World}{base:Nat}{v:Value}{xs:List Int}(h:RowI w base 5 .u8 v xs):MemO base w v xs:=by
 obtain⟨_,⟨rfl,h0⟩|⟨g,cap,cur,rfl,hb,hg,h1,h2,h3,h4⟩⟩:=h
 ·exact Or.inl ⟨List.length_eq_zero_iff.1 h0,rfl⟩
 ·refine Or.inr ⟨g,cap,rfl,h1,by unfold maxLen at h2;omega,hb,?_,fun i hi=>?_⟩
  ·rcases Nat.lt_or_ge g w.heap.size with h|h
   ·exact h
   ·rw[Array.getElem?_eq_none h]at hg;cases hg
  ·have e1:w.cell? ⟨g,i,none⟩=cur.toList[i]? :=by simp[World.cell?,hg]
   have e2:(cur.toList.take (xs.length*1))[i]? =cur.toList[i]? :=by rw[List.getElem?_take,if_pos (by omega)]
   refine⟨?_,by simp[World.frozen?,hg]⟩;rw[e1,←e2,h4,List.getElem?_map,List.getElem?_eq_getElem hi,List.getD_eq_getElem?_getD,List.getElem?_eq_getElem hi];rfl
theorem B8{c:Mac}(h:c.r.length=32)(mv:Value):(B4 c mv).length=36:=by simp[B4,h]
theorem A0B{c:Mac}(h:c.r.length=32)(mv mv':Value):(B4 c mv).set 34 mv'=B4 c mv':=by
 unfold B4;rw[List.set_append_right _ _ (by simp[h])];simp[h]
theorem A0Y{c:Mac}(h:c.r.length=32)(mv:Value)(e:Int):(B4 c mv).set 35 (.int .i64 e)=B4 {c with e:=e} mv:=by
 unfold B4;rw[List.set_append_right _ _ (by simp[h])];simp[h]
theorem T2{c:Mac}{mv:Value}(hmv:∃a l k,mv= .slice a l k):(B4 c mv).toArray.all (·.oneCell')=true:=by
 obtain⟨a,l,k,rfl⟩:=hmv;refine all_oneCell_toArray fun v hv=>?_
 unfold B4 at hv;rcases List.mem_append.1 hv with hv|hv
 ·obtain⟨y,_,rfl⟩:=List.mem_map.1 hv;rfl
 ·simp only[List.mem_cons,List.not_mem_nil,or_false]at hv;rcases hv with rfl|rfl|rfl|rfl<;>rfl
theorem Ints.isSlice{k:IntKind}{w:World}{v:Value}{xs:List Int}(h:Ints k w v xs):∃a l c,v= .slice a l c:=by
 obtain⟨a,c,rfl,_⟩:=h;exact⟨_,_,_,rfl⟩
theorem MemO.isSlice{base:Nat}{w:World}{mv:Value}{m:List Int}(h:MemO base w mv m):∃a l c,mv= .slice a l c:=by
 rcases h with⟨_,e⟩|⟨D,cap,e,_⟩<;>exact⟨_,_,_,e⟩
theorem CellsAt.tail4{w:World}{b:Nat}{c:Mac}{mv:Value}(h:CellsAt w b (B4 c mv))(hr:c.r.length=32)(k:Nat)(v:Value)(hv:([.int .i64 c.f,.int .u32 c.a,mv,.int .i64 c.e]:List Value)[k]? =some v):w.cell? ⟨b,32+k,none⟩=some v∧w.frozen? ⟨b,32+k,none⟩=false:=by
 refine h (32+k) v ?_;unfold B4;rw[List.getElem?_append_right (by simp[hr])];simp only[List.length_map,hr,Nat.add_sub_cancel_left];exact hv
theorem CellsAt.tails{w:World}{b:Nat}{c:Mac}{mv:Value}(h:CellsAt w b (B4 c mv))(hr:c.r.length=32):
  (w.cell? ⟨b,32,none⟩=some (.int .i64 c.f)∧w.frozen? ⟨b,32,none⟩=false)∧(w.cell? ⟨b,33,none⟩=some (.int .u32 c.a)∧w.frozen? ⟨b,33,none⟩=false)∧(w.cell? ⟨b,34,none⟩=some mv∧w.frozen? ⟨b,34,none⟩=false)∧(w.cell? ⟨b,35,none⟩=some (.int .i64 c.e)∧w.frozen? ⟨b,35,none⟩=false):=
 ⟨h.tail4 hr 0 _ rfl,h.tail4 hr 1 _ rfl,h.tail4 hr 2 _ rfl,h.tail4 hr 3 _ rfl⟩
def K3:Mac:=⟨List.replicate 32 0,0,0,[],0⟩
theorem X5(w:World)(cs ds:List Value)(t:TypeId)(h0:0<cs.length):CellsAt ((w.alloc (.cells cs.toArray t)).alloc (.cells ds.toArray t)) w.heap.size cs∧CellsAt ((w.alloc (.cells cs.toArray t)).alloc (.cells ds.toArray t)) (w.heap.size+1) ds∧Below w.heap.size w ((w.alloc (.cells cs.toArray t)).alloc (.cells ds.toArray t))∧((w.alloc (.cells cs.toArray t)).alloc (.cells ds.toArray t)).heap.size=w.heap.size+2:=by
 obtain⟨h1,h2⟩:=G9 w cs t;obtain⟨h3,h4⟩:=G9 (w.alloc (.cells cs.toArray t)) ds t;have hs:(w.alloc (.cells cs.toArray t)).heap.size=w.heap.size+1:=by simp
 refine⟨h2.below h0 h3,by rw[←hs];exact h4,h1.alloc (by omega) _,by simp⟩
theorem V4:(#[.int .u32 0,.int .u32 0,.int .u32 0,.int .u32 0,.int .u32 0,.int .u32 0,.int .u32 0,.int .u32 0,.int .u32 0,.int .u32 0,.int .u32 0,.int .u32 0,.int .u32 0,.int .u32 0,.int .u32 0,.int .u32 0,.int .u32 0,.int .u32 0,.int .u32 0,.int .u32 0,.int .u32 0,.int .u32 0,.int .u32 0,.int .u32 0,.int .u32 0,.int .u32 0,.int .u32 0,.int .u32 0,.int .u32 0,.int .u32 0,.int .u32 0,.int .u32 0,.int .i64 0,.int .u32 0,.slice none 0 0,.int .i64 0]:Array Value)=(B4 K3 (.slice none 0 0)).toArray:=rfl
theorem A0t:MOk K3:=⟨rfl,fun k=>by
 have:(List.replicate 32 (0:Int)).getD k 0=0:=by
  rw[List.getD_eq_getElem?_getD,List.getElem?_replicate]
  split<;>rfl
 show 0≤(List.replicate 32 (0:Int)).getD k 0∧(List.replicate 32 (0:Int)).getD k 0<4294967296
 omega,⟨by decide,by decide⟩,fun i=>by show 0≤([]:List Int).getD i 0∧([]:List Int).getD i 0<256;simp⟩
theorem CellsAt.regs{w:World}{b:Nat}{c:Mac}{mv:Value}(h:CellsAt w b (B4 c mv)):w.rangeAt b 0 (c.r.map (Value.int .u32)):=fun j v hj=>by
 rw[Nat.zero_add];refine(h j v ?_).1;unfold B4;rw[List.getElem?_append_left ((List.getElem?_eq_some_iff.1 hj).1)];exact hj
theorem l5{P:Program}(w:World)(d:Nat){e:TypeId}{k:IntKind}(hp:P.plainKey e=true)(hu:P.underlying e=some (.int k))(hc:P.cellsOf e=1)(l:List Int):∀is:List Nat,(∀i∈is,i<l.length)→(Op.eqItems (d+1) e (P.cellsOf e) (l.map (Value.int k)).toArray (l.map (Value.int k)).toArray is).run P w= .ok true w
 |[],_=>by simp[Op.eqItems]
 |i::is,h=>by
  have hi:=h i (List.mem_cons_self ..);have hx:(l.map (Value.int k)).toArray[i*P.cellsOf e]? =some (.int k l[i]):=by rw[hc];simp[hi]
  simp only[Op.eqItems,Sem.run_bind,run_part_plain w hp hx,Result.andThen_ok,run_equalIn_int w d e k k _ _ hu];simpa using l5 w d hp hu hc l is fun j hj=>h j (List.mem_cons_of_mem _ hj)
theorem A6U{P:Program}(w:World){t e:TypeId}{n:Nat}{i:TypeInfo}{k:IntKind}(ht:P.underlying t=some (.array n e))(hi:P.info? e=some i)(hp:P.plainKey e=true)(hu:P.underlying e=some (.int k))(hc:P.cellsOf e=1)(l:List Int)(hl:l.length=n):
  (binOp .neq t (.agg (l.map (Value.int k)).toArray) (.agg (l.map (Value.int k)).toArray)).run P w= .ok (.bool false) w:=by
 rw[run_neq_struct,run_equalIn_array w 9999 _ _ ht hi,l5 w 9998 hp hu hc l _ (fun j hj=>by rw[hl];exact List.mem_range.1 hj)];rfl
end Go.Proofs.YtajljbmeaeeknaaGreat
namespace Go.Proofs.YtajljbmeaeeknaaGreat
open Go.RowKit
set_option linter.unusedVariables false
set_option linter.unusedSimpArgs false
theorem A4x(o:Int)(w:World)(h:o<0):Calls prog 84 #[.int .i64 o] w fun e w'=>e= .returned (.int .i64 10)∧w=w':=by
 have g0:decide (o<0)=true:=by simp;omega
 clear h;go_enter func84,ntmps84;go_wp2_with fail
 go_ret;exact⟨rfl,rfl⟩
theorem A4y(o:Int)(w:World)(h:40<o):Calls prog 84 #[.int .i64 o] w fun e w'=>e= .returned (.int .i64 10)∧w=w':=by
 have g0:decide (o<0)=false:=by simp;omega
 have g1:decide (40<o)=true:=by simp;omega
 clear h;go_enter func84,ntmps84;go_wp2_with fail
 go_ret;exact⟨rfl,rfl⟩
theorem A2Q(o:Int)(w:World)(h0:0≤o)(h1:o≤14):Calls prog 84 #[.int .i64 o] w fun e w'=>e= .returned (.int .i64 0)∧w=w':=by
 have g0:decide (o<0)=false:=by simp;omega
 have g1:decide (40<o)=false:=by simp;omega
 have t0:decide (o≤14)=true:=by simp;omega
 clear h0 h1;go_enter func84,ntmps84;go_wp2_with fail
 go_ret;exact⟨rfl,rfl⟩
theorem A2P(o:Int)(w:World)(h0:15≤o)(h1:o≤20):Calls prog 84 #[.int .i64 o] w fun e w'=>e= .returned (.int .i64 1)∧w=w':=by
 have g0:decide (o<0)=false:=by simp;omega
 have g1:decide (40<o)=false:=by simp;omega
 have t0:decide (o≤14)=false:=by simp;omega
 have t1:decide (o≤20)=true:=by simp;omega
 clear h0 h1;go_enter func84,ntmps84;go_wp2_with fail
 go_ret;exact⟨rfl,rfl⟩
theorem A2O(o:Int)(w:World)(h0:21≤o)(h1:o≤23):Calls prog 84 #[.int .i64 o] w fun e w'=>e= .returned (.int .i64 2)∧w=w':=by
 have g0:decide (o<0)=false:=by simp;omega
 have g1:decide (40<o)=false:=by simp;omega
 have t0:decide (o≤14)=false:=by simp;omega
 have t1:decide (o≤20)=false:=by simp;omega
 have t2:decide (o≤23)=true:=by simp;omega
 clear h0 h1;go_enter func84,ntmps84;go_wp2_with fail
 go_ret;exact⟨rfl,rfl⟩
theorem A2N(o:Int)(w:World)(h0:24≤o)(h1:o≤24):Calls prog 84 #[.int .i64 o] w fun e w'=>e= .returned (.int .i64 3)∧w=w':=by
 have g0:decide (o<0)=false:=by simp;omega
 have g1:decide (40<o)=false:=by simp;omega
 have t0:decide (o≤14)=false:=by simp;omega
 have t1:decide (o≤20)=false:=by simp;omega
 have t2:decide (o≤23)=false:=by simp;omega
 have t3:(o==24)=true:=by simp;omega
 clear h0 h1;go_enter func84,ntmps84;go_wp2_with fail
 go_ret;exact⟨rfl,rfl⟩
theorem A2M(o:Int)(w:World)(h0:25≤o)(h1:o≤27):Calls prog 84 #[.int .i64 o] w fun e w'=>e= .returned (.int .i64 4)∧w=w':=by
 have g0:decide (o<0)=false:=by simp;omega
 have g1:decide (40<o)=false:=by simp;omega
 have t0:decide (o≤14)=false:=by simp;omega
 have t1:decide (o≤20)=false:=by simp;omega
 have t2:decide (o≤23)=false:=by simp;omega
 have t3:(o==24)=false:=by simp;omega
 have t4:decide (o≤27)=true:=by simp;omega
 clear h0 h1;go_enter func84,ntmps84;go_wp2_with fail
 go_ret;exact⟨rfl,rfl⟩
theorem A2L(o:Int)(w:World)(h0:28≤o)(h1:o≤30):Calls prog 84 #[.int .i64 o] w fun e w'=>e= .returned (.int .i64 5)∧w=w':=by
 have g0:decide (o<0)=false:=by simp;omega
 have g1:decide (40<o)=false:=by simp;omega
 have t0:decide (o≤14)=false:=by simp;omega
 have t1:decide (o≤20)=false:=by simp;omega
 have t2:decide (o≤23)=false:=by simp;omega
 have t3:(o==24)=false:=by simp;omega
 have t4:decide (o≤27)=false:=by simp;omega
 have t5:decide (o≤30)=true:=by simp;omega
 clear h0 h1;go_enter func84,ntmps84;go_wp2_with fail
 go_ret;exact⟨rfl,rfl⟩
theorem A2K(o:Int)(w:World)(h0:31≤o)(h1:o≤36):Calls prog 84 #[.int .i64 o] w fun e w'=>e= .returned (.int .i64 6)∧w=w':=by
 have g0:decide (o<0)=false:=by simp;omega
 have g1:decide (40<o)=false:=by simp;omega
 have t0:decide (o≤14)=false:=by simp;omega
 have t1:decide (o≤20)=false:=by simp;omega
 have t2:decide (o≤23)=false:=by simp;omega
 have t3:(o==24)=false:=by simp;omega
 have t4:decide (o≤27)=false:=by simp;omega
 have t5:decide (o≤30)=false:=by simp;omega
 have t6:decide (o≤36)=true:=by simp;omega
 clear h0 h1;go_enter func84,ntmps84;go_wp2_with fail
 go_ret;exact⟨rfl,rfl⟩
theorem A2J(o:Int)(w:World)(h0:37≤o)(h1:o≤37):Calls prog 84 #[.int .i64 o] w fun e w'=>e= .returned (.int .i64 7)∧w=w':=by
 have g0:decide (o<0)=false:=by simp;omega
 have g1:decide (40<o)=false:=by simp;omega
 have t0:decide (o≤14)=false:=by simp;omega
 have t1:decide (o≤20)=false:=by simp;omega
 have t2:decide (o≤23)=false:=by simp;omega
 have t3:(o==24)=false:=by simp;omega
 have t4:decide (o≤27)=false:=by simp;omega
 have t5:decide (o≤30)=false:=by simp;omega
 have t6:decide (o≤36)=false:=by simp;omega
 have t7:(o==37)=true:=by simp;omega
 clear h0 h1;go_enter func84,ntmps84;go_wp2_with fail
 go_ret;exact⟨rfl,rfl⟩
theorem A2I(o:Int)(w:World)(h0:38≤o)(h1:o≤38):Calls prog 84 #[.int .i64 o] w fun e w'=>e= .returned (.int .i64 8)∧w=w':=by
 have g0:decide (o<0)=false:=by simp;omega
 have g1:decide (40<o)=false:=by simp;omega
 have t0:decide (o≤14)=false:=by simp;omega
 have t1:decide (o≤20)=false:=by simp;omega
 have t2:decide (o≤23)=false:=by simp;omega
 have t3:(o==24)=false:=by simp;omega
 have t4:decide (o≤27)=false:=by simp;omega
 have t5:decide (o≤30)=false:=by simp;omega
 have t6:decide (o≤36)=false:=by simp;omega
 have t7:(o==37)=false:=by simp;omega
 have t8:(o==38)=true:=by simp;omega
 clear h0 h1;go_enter func84,ntmps84;go_wp2_with fail
 go_ret;exact⟨rfl,rfl⟩
theorem A6q(o:Int)(w:World)(h0:39≤o)(h1:o≤40):Calls prog 84 #[.int .i64 o] w fun e w'=>e= .returned (.int .i64 9)∧w=w':=by
 have g0:decide (o<0)=false:=by simp;omega
 have g1:decide (40<o)=false:=by simp;omega
 have t0:decide (o≤14)=false:=by simp;omega
 have t1:decide (o≤20)=false:=by simp;omega
 have t2:decide (o≤23)=false:=by simp;omega
 have t3:(o==24)=false:=by simp;omega
 have t4:decide (o≤27)=false:=by simp;omega
 have t5:decide (o≤30)=false:=by simp;omega
 have t6:decide (o≤36)=false:=by simp;omega
 have t7:(o==37)=false:=by simp;omega
 have t8:(o==38)=false:=by simp;omega
 clear h0 h1;go_enter func84,ntmps84;go_wp2_with fail
 go_ret;exact⟨rfl,rfl⟩
theorem D9(o:Int)(w:World):Calls prog 84 #[.int .i64 o] w fun e w'=>e= .returned (.int .i64 (fmR o))∧w=w':=by
 by_cases h0:o<0
 ·have e:fmR o=10:=by unfold fmR;rw[if_pos (.inl h0)]
  rw[e];exact A4x o w h0
 by_cases h1:40<o
 ·have e:fmR o=10:=by unfold fmR;rw[if_pos (.inr h1)]
  rw[e];exact A4y o w h1
 rcases I7 o (by omega) (by omega)with⟨f,ho⟩|⟨f,ho⟩|⟨f,ho⟩|⟨f,ho⟩|⟨f,ho⟩|⟨f,ho⟩|⟨f,ho⟩|⟨f,ho⟩|⟨f,ho⟩|⟨f,ho⟩<;>rw[f]
 ·exact A2Q o w (by omega) (by omega)
 ·exact A2P o w (by omega) (by omega)
 ·exact A2O o w (by omega) (by omega)
 ·exact A2N o w (by omega) (by omega)
 ·exact A2M o w (by omega) (by omega)
 ·exact A2L o w (by omega) (by omega)
 ·exact A2K o w (by omega) (by omega)
 ·exact A2J o w (by omega) (by omega)
 ·exact A2I o w (by omega) (by omega)
 ·exact A6q o w (by omega) (by omega)
theorem L8(f:Int)(hf:0≤f∧f≤9)(w:World):Calls prog 87 #[.int .i64 f] w fun e w'=>e= .returned (.int .u32 (cdR f))∧w=w':=by
 have hc:f=0∨f=1∨f=2∨f=3∨f=4∨f=5∨f=6∨f=7∨f=8∨f=9:=by omega
 rcases hc with rfl|rfl|rfl|rfl|rfl|rfl|rfl|rfl|rfl|rfl
 all_goals
  go_enter func87,ntmps87;go_wp2_with fail
  go_ret;exact⟨rfl,rfl⟩
set_option maxHeartbeats 2000000
def hsL(f:Int):List Bool:=[hdR f,haR f,hbR f,decide (1≤f)&&decide (f≤8)]
def hsV(f:Int):List Value:=(hsL f).map Value.bool
theorem M5(f:Int)(hf:0≤f∧f≤10)(w:World):Calls prog 85 #[.int .i64 f] w fun e w'=>e= .returned (.agg (hsV f).toArray)∧Below w.heap.size w w':=by
 have hc:f=0∨f=1∨f=2∨f=3∨f=4∨f=5∨f=6∨f=7∨f=8∨f=9∨f=10:=by omega
 rcases hc with rfl|rfl|rfl|rfl|rfl|rfl|rfl|rfl|rfl|rfl|rfl
 all_goals
  go_enter func85,ntmps85;go_wp2_with fail
  refine bodyPost_ret (v:=.agg (hsV _).toArray) (res1 (cs:=hsV _) rfl rfl (G9 w _ 165).2 underlying165 rfl (by kernel_rfl)) rfl ⟨rfl,(Below.refl _ w).alloc (Nat.le_refl _) _⟩
theorem A4X{p:Prop}(h:p:=by
 cases b0<;>cases b1
 all_goals
  go_enter func86,ntmps86;go_wp2_with fail
  go_ret;exact⟨rfl,rfl⟩
 ):p:=h
set_option maxHeartbeats 4000000 in
theorem M1(o:Int)(w:World)(h0:0≤o)(h1:o≤38):Calls prog 88 #[.int .i64 o] w fun e w'=>e= .returned (.int .u32 (thR o))∧w=w':=by
 have hc:o=0∨o=1∨o=2∨o=3∨o=4∨o=5∨o=6∨o=7∨o=8∨o=9∨o=10∨o=11∨o=12∨o=13∨o=14∨o=15∨o=16∨o=17∨o=18∨o=19∨o=20∨o=21∨o=22∨o=23∨o=24∨o=25∨o=26∨o=27∨o=28∨o=29∨o=30∨o=31∨o=32∨o=33∨o=34∨o=35∨o=36∨o=37∨o=38:=by omega
 rcases hc with rfl|rfl|rfl|rfl|rfl|rfl|rfl|rfl|rfl|rfl|rfl|rfl|rfl|rfl|rfl|rfl|rfl|rfl|rfl|rfl|rfl|rfl|rfl|rfl|rfl|rfl|rfl|rfl|rfl|rfl|rfl|rfl|rfl|rfl|rfl|rfl|rfl|rfl|rfl
 all_goals
  go_enter func88,ntmps88;go_wp2_with fail
  go_ret;exact⟨rfl,rfl⟩
theorem J5(o:Int)(w:World):Calls prog 89 #[.int .i64 o] w fun e w'=>e= .returned (.int .u32 (svR o))∧w=w':=by
 by_cases h1:o=1
 ·subst h1;go_enter func89,ntmps89;go_wp2_with fail
  go_ret;exact⟨rfl,rfl⟩
 by_cases h2:o=7
 ·subst h2;go_enter func89,ntmps89;go_wp2_with fail
  go_ret;exact⟨rfl,rfl⟩
 by_cases h3:o=23
 ·subst h3;go_enter func89,ntmps89;go_wp2_with fail
  go_ret;exact⟨rfl,rfl⟩
 have e0:svR o=if 10≤o∧o≤14 then 1 else 0:=by unfold svR;rw[if_neg (by omega)]
 rw[e0];have b1:(o==1)=false:=by simpa using h1
 have b2:(o==7)=false:=by simpa using h2
 have b3:(o==23)=false:=by simpa using h3
 clear e0;by_cases h4:10≤o
 ·have b4:decide (10≤o)=true:=by simpa using h4
  by_cases h5:o≤14
  ·rw[if_pos ⟨h4,h5⟩];have b5:decide (o≤14)=true:=by simpa using h5
   clear h1 h2 h3 h4 h5;go_enter func89,ntmps89;go_wp2_with fail
   go_ret;exact⟨rfl,rfl⟩
  ·rw[if_neg (by omega)];have b5:decide (o≤14)=false:=by simpa using h5
   clear h1 h2 h3 h4 h5;go_enter func89,ntmps89;go_wp2_with fail
   go_ret;exact⟨rfl,rfl⟩
 ·rw[if_neg (by omega)];have b4:decide (10≤o)=false:=by simpa using h4
  clear h1 h2 h3 h4;go_enter func89,ntmps89;go_wp2_with fail
  go_ret;exact⟨rfl,rfl⟩
theorem B2Z(n:Int)(w:World):Calls prog 86 #[.int .i64 0,.int .i64 n] w fun e w'=>e= .returned (.bool (fiR 0 n))∧w=w':=by
 have he:fiR 0 n=(n==0):=rfl;rw[he];clear he;generalize c0:(n==0)=b0;cases b0
 all_goals
  go_enter func86,ntmps86;go_wp2_with fail
  go_ret;exact⟨rfl,rfl⟩
theorem B2Y(n:Int)(w:World):Calls prog 86 #[.int .i64 1,.int .i64 n] w fun e w'=>e= .returned (.bool (fiR 1 n))∧w=w':=by
 have he:fiR 1 n=(decide (-2048≤n)&&decide (n≤2047)):=rfl;rw[he];clear he;generalize c0:decide (-2048≤n)=b0;generalize c1:decide (n≤2047)=b1;exact A4X
theorem B2X(n:Int)(w:World):Calls prog 86 #[.int .i64 2,.int .i64 n] w fun e w'=>e= .returned (.bool (fiR 2 n))∧w=w':=by
 have he:fiR 2 n=(decide (0≤n)&&decide (n≤31)):=rfl;rw[he];clear he;generalize c0:decide (0≤n)=b0;generalize c1:decide (n≤31)=b1;exact A4X
theorem B2W(n:Int)(w:World):Calls prog 86 #[.int .i64 3,.int .i64 n] w fun e w'=>e= .returned (.bool (fiR 3 n))∧w=w':=by
 have he:fiR 3 n=(decide (0≤n)&&decide (n<1048576)):=rfl;rw[he];clear he;generalize c0:decide (0≤n)=b0;generalize c1:decide (n<1048576)=b1;exact A4X
theorem B2V(n:Int)(w:World):Calls prog 86 #[.int .i64 4,.int .i64 n] w fun e w'=>e= .returned (.bool (fiR 4 n))∧w=w':=by
 have he:fiR 4 n=(decide (-2048≤n)&&decide (n≤2047)):=rfl;rw[he];clear he;generalize c0:decide (-2048≤n)=b0;generalize c1:decide (n≤2047)=b1;exact A4X
theorem B2U(n:Int)(w:World):Calls prog 86 #[.int .i64 5,.int .i64 n] w fun e w'=>e= .returned (.bool (fiR 5 n))∧w=w':=by
 have he:fiR 5 n=(decide (-2048≤n)&&decide (n≤2047)):=rfl;rw[he];clear he;generalize c0:decide (-2048≤n)=b0;generalize c1:decide (n≤2047)=b1;exact A4X
theorem B2T(n:Int)(w:World):Calls prog 86 #[.int .i64 6,.int .i64 n] w fun e w'=>e= .returned (.bool (fiR 6 n))∧w=w':=by
 have hw:wrap64 (n.tmod 2)=n.tmod 2:=IntWalk.wrap64_in _ (by have:=Int.tmod_lt_of_pos n (show(0:Int)<2 by decide);have:=Int.lt_tmod_of_pos n (show(0:Int)<2 by decide);omega);have ht:(n.tmod 2==0)=(n%2==0):=by
  rw[Bool.eq_iff_iff,beq_iff_eq,beq_iff_eq];exact⟨fun h=>Int.emod_eq_zero_of_dvd (Int.dvd_of_tmod_eq_zero h),fun h=>Int.tmod_eq_zero_of_dvd (Int.dvd_of_emod_eq_zero h)⟩
 have he:fiR 6 n=(decide (-4096≤n)&&(decide (n≤4094)&&n%2==0)):=rfl;rw[he];clear he;rw[←ht];clear ht;generalize c0:decide (-4096≤n)=b0;generalize c1:decide (n≤4094)=b1;generalize c2:(n.tmod 2==0)=b2;cases b0<;>cases b1<;>cases b2
 all_goals
  go_enter func86,ntmps86;go_wp2_with fail
  go_ret;exact⟨rfl,rfl⟩
theorem B2S(n:Int)(w:World):Calls prog 86 #[.int .i64 7,.int .i64 n] w fun e w'=>e= .returned (.bool (fiR 7 n))∧w=w':=by
 have hw:wrap64 (n.tmod 2)=n.tmod 2:=IntWalk.wrap64_in _ (by have:=Int.tmod_lt_of_pos n (show(0:Int)<2 by decide);have:=Int.lt_tmod_of_pos n (show(0:Int)<2 by decide);omega);have ht:(n.tmod 2==0)=(n%2==0):=by
  rw[Bool.eq_iff_iff,beq_iff_eq,beq_iff_eq];exact⟨fun h=>Int.emod_eq_zero_of_dvd (Int.dvd_of_tmod_eq_zero h),fun h=>Int.tmod_eq_zero_of_dvd (Int.dvd_of_emod_eq_zero h)⟩
 have he:fiR 7 n=(decide (-1048576≤n)&&(decide (n≤1048574)&&n%2==0)):=rfl;rw[he];clear he;rw[←ht];clear ht;generalize c0:decide (-1048576≤n)=b0;generalize c1:decide (n≤1048574)=b1;generalize c2:(n.tmod 2==0)=b2;cases b0<;>cases b1<;>cases b2
 all_goals
  go_enter func86,ntmps86;go_wp2_with fail
  go_ret;exact⟨rfl,rfl⟩
theorem B2R(n:Int)(w:World):Calls prog 86 #[.int .i64 8,.int .i64 n] w fun e w'=>e= .returned (.bool (fiR 8 n))∧w=w':=by
 have he:fiR 8 n=(decide (-2048≤n)&&decide (n≤2047)):=rfl;rw[he];clear he;generalize c0:decide (-2048≤n)=b0;generalize c1:decide (n≤2047)=b1;exact A4X
theorem B2Q(n:Int)(w:World):Calls prog 86 #[.int .i64 9,.int .i64 n] w fun e w'=>e= .returned (.bool (fiR 9 n))∧w=w':=by
 have he:fiR 9 n=(n==0):=rfl;rw[he];clear he;generalize c0:(n==0)=b0;cases b0
 all_goals
  go_enter func86,ntmps86;go_wp2_with fail
  go_ret;exact⟨rfl,rfl⟩
theorem A7B(f n:Int)(hf:0≤f∧f≤9)(w:World):Calls prog 86 #[.int .i64 f,.int .i64 n] w fun e w'=>e= .returned (.bool (fiR f n))∧w=w':=by
 have hc:f=0∨f=1∨f=2∨f=3∨f=4∨f=5∨f=6∨f=7∨f=8∨f=9:=by omega
 rcases hc with rfl|rfl|rfl|rfl|rfl|rfl|rfl|rfl|rfl|rfl
 ·exact B2Z n w
 ·exact B2Y n w
 ·exact B2X n w
 ·exact B2W n w
 ·exact B2V n w
 ·exact B2U n w
 ·exact B2T n w
 ·exact B2S n w
 ·exact B2R n w
 ·exact B2Q n w
theorem T9{p:Prop}(h:p:=by
 go_enter func90,ntmps90;go_wp2_with fail
 go_quiet(fail)
 go_wp2_with fail
 go_ret;exact⟨rfl,_,rfl⟩
 ):p:=h
theorem A5i(a b:Nat)(ha:a<4294967296)(hb:b<4294967296):bits .and .u32 (a:Int) (b:Int)=((a&&&b:Nat):Int):=by
 have hx:a&&&b<2^32:=Nat.and_lt_two_pow _ (by omega);have h1:(BitVec.ofInt 32 (a:Int)).toNat=a:=by rw[BitVec.ofInt_natCast,BitVec.toNat_ofNat];exact Nat.mod_eq_of_lt (by omega)
 have h2:(BitVec.ofInt 32 (b:Int)).toNat=b:=by rw[BitVec.ofInt_natCast,BitVec.toNat_ofNat];exact Nat.mod_eq_of_lt (by omega)
 show IntKind.u32.wrap ((BitVec.ofInt 32 (a:Int)&&&BitVec.ofInt 32 (b:Int)).toNat:Int)=_
 rw[BitVec.toNat_and,h1,h2];simp only[IntKind.wrap,IntKind.bits,IntKind.signed];simp;omega
theorem A0j(a b:Nat)(ha:a<4294967296)(hb:b<4294967296):bits .or .u32 (a:Int) (b:Int)=((a|||b:Nat):Int):=by
 have hx:a|||b<2^32:=Nat.or_lt_two_pow (by omega) (by omega)
 have h1:(BitVec.ofInt 32 (a:Int)).toNat=a:=by rw[BitVec.ofInt_natCast,BitVec.toNat_ofNat];exact Nat.mod_eq_of_lt (by omega)
 have h2:(BitVec.ofInt 32 (b:Int)).toNat=b:=by rw[BitVec.ofInt_natCast,BitVec.toNat_ofNat];exact Nat.mod_eq_of_lt (by omega)
 show IntKind.u32.wrap ((BitVec.ofInt 32 (a:Int)|||BitVec.ofInt 32 (b:Int)).toNat:Int)=_
 rw[BitVec.toNat_or,h1,h2];simp only[IntKind.wrap,IntKind.bits,IntKind.signed];simp;omega
theorem A9{a:Int}(k:Nat)(h0:0≤a)(h1:a<4294967296)(hk:k≤32){m:Int}(hm:m=2^k-1):bits .and .u32 a m=a%2^k:=by
 obtain⟨n,rfl⟩:=Int.eq_ofNat_of_zero_le h0;have hp:1≤2^k:=Nat.one_le_two_pow;have hp2:2^k≤4294967296:=by have:=Nat.pow_le_pow_right (n:=2) (by omega) hk;simpa using this
 have e:m=((2^k-1:Nat):Int):=by rw[hm];push_cast [hp];rfl
 rw[e,A5i n _ (by omega) (by omega),Nat.and_two_pow_sub_one_eq_mod]
 push_cast;rfl
theorem A5g{a b:Int}(k:Nat)(h0:0≤a)(h1:a<2^k)(hb:0≤b)(hs:a+b*2^k<4294967296):bits .or .u32 a (b*2^k)=a+b*2^k:=by
 obtain⟨n,rfl⟩:=Int.eq_ofNat_of_zero_le h0;obtain⟨m,rfl⟩:=Int.eq_ofNat_of_zero_le hb;have e1:(m:Int)*2^k=((m*2^k:Nat):Int):=by push_cast;rfl
 have h1':n<2^k:=by exact_mod_cast h1
 rw[e1]at hs⊢;have:=Nat.two_pow_add_eq_or_of_lt h1' m;rw[A0j n _ (by omega) (by omega),Nat.or_comm,Nat.mul_comm m,←this]
 push_cast
 rw[Int.add_comm]
theorem A5Y(n:Int)(h0:0≤n)(h1:n<4294967296)(w:World):Calls prog 90 #[.int .u32 n,.int .i64 0,.int .i64 5,.int .i64 7] w fun e w'=>e= .returned (.int .u32 (n%32*128))∧Dr w w':=by
 have hm:bits .and .u32 (n) 31=n%32:=A9 5 (by omega) (by omega) (by decide) rfl;exact T9
theorem A3i(n:Int)(h0:0≤n)(h1:n<4294967296)(w:World):Calls prog 90 #[.int .u32 n,.int .i64 5,.int .i64 7,.int .i64 25] w fun e w'=>e= .returned (.int .u32 (n / 32%128*33554432))∧Dr w w':=by
 have hm:bits .and .u32 (n / 32) 127=n / 32%128:=A9 7 (by omega) (by omega) (by decide) rfl;exact T9
theorem A3m(n:Int)(h0:0≤n)(h1:n<4294967296)(w:World):Calls prog 90 #[.int .u32 n,.int .i64 11,.int .i64 1,.int .i64 7] w fun e w'=>e= .returned (.int .u32 (n / 2048%2*128))∧Dr w w':=by
 have hm:bits .and .u32 (n / 2048) 1=n / 2048%2:=A9 1 (by omega) (by omega) (by decide) rfl;exact T9
theorem A5X(n:Int)(h0:0≤n)(h1:n<4294967296)(w:World):Calls prog 90 #[.int .u32 n,.int .i64 1,.int .i64 4,.int .i64 8] w fun e w'=>e= .returned (.int .u32 (n / 2%16*256))∧Dr w w':=by
 have hm:bits .and .u32 (n / 2) 15=n / 2%16:=A9 4 (by omega) (by omega) (by decide) rfl;exact T9
theorem A3j(n:Int)(h0:0≤n)(h1:n<4294967296)(w:World):Calls prog 90 #[.int .u32 n,.int .i64 5,.int .i64 6,.int .i64 25] w fun e w'=>e= .returned (.int .u32 (n / 32%64*33554432))∧Dr w w':=by
 have hm:bits .and .u32 (n / 32) 63=n / 32%64:=A9 6 (by omega) (by omega) (by decide) rfl;exact T9
theorem A2o(n:Int)(h0:0≤n)(h1:n<4294967296)(w:World):Calls prog 90 #[.int .u32 n,.int .i64 12,.int .i64 1,.int .i64 31] w fun e w'=>e= .returned (.int .u32 (n / 4096%2*2147483648))∧Dr w w':=by
 have hm:bits .and .u32 (n / 4096) 1=n / 4096%2:=A9 1 (by omega) (by omega) (by decide) rfl;exact T9
theorem u6(n:Int)(h0:0≤n)(h1:n<4294967296)(w:World):Calls prog 90 #[.int .u32 n,.int .i64 12,.int .i64 8,.int .i64 12] w fun e w'=>e= .returned (.int .u32 (n / 4096%256*4096))∧Dr w w':=by
 have hm:bits .and .u32 (n / 4096) 255=n / 4096%256:=A9 8 (by omega) (by omega) (by decide) rfl;exact T9
theorem A2p(n:Int)(h0:0≤n)(h1:n<4294967296)(w:World):Calls prog 90 #[.int .u32 n,.int .i64 11,.int .i64 1,.int .i64 20] w fun e w'=>e= .returned (.int .u32 (n / 2048%2*1048576))∧Dr w w':=by
 have hm:bits .and .u32 (n / 2048) 1=n / 2048%2:=A9 1 (by omega) (by omega) (by decide) rfl;exact T9
theorem A2n(n:Int)(h0:0≤n)(h1:n<4294967296)(w:World):Calls prog 90 #[.int .u32 n,.int .i64 1,.int .i64 10,.int .i64 21] w fun e w'=>e= .returned (.int .u32 (n / 2%1024*2097152))∧Dr w w':=by
 have hm:bits .and .u32 (n / 2) 1023=n / 2%1024:=A9 10 (by omega) (by omega) (by decide) rfl;exact T9
theorem A2l(n:Int)(h0:0≤n)(h1:n<4294967296)(w:World):Calls prog 90 #[.int .u32 n,.int .i64 20,.int .i64 1,.int .i64 31] w fun e w'=>e= .returned (.int .u32 (n / 1048576%2*2147483648))∧Dr w w':=by
 have hm:bits .and .u32 (n / 1048576) 1=n / 1048576%2:=A9 1 (by omega) (by omega) (by decide) rfl;exact T9
theorem A5W(n:Int)(h0:0≤n)(h1:n<4294967296)(w:World):Calls prog 90 #[.int .u32 n,.int .i64 7,.int .i64 5,.int .i64 0] w fun e w'=>e= .returned (.int .u32 (n / 128%32))∧Dr w w':=by
 have hm:bits .and .u32 (n / 128) 31=n / 128%32:=A9 5 (by omega) (by omega) (by decide) rfl;exact T9
theorem A3k(n:Int)(h0:0≤n)(h1:n<4294967296)(w:World):Calls prog 90 #[.int .u32 n,.int .i64 25,.int .i64 7,.int .i64 5] w fun e w'=>e= .returned (.int .u32 (n / 33554432%128*32))∧Dr w w':=by
 have hm:bits .and .u32 (n / 33554432) 127=n / 33554432%128:=A9 7 (by omega) (by omega) (by decide) rfl;exact T9
theorem A3h(n:Int)(h0:0≤n)(h1:n<4294967296)(w:World):Calls prog 90 #[.int .u32 n,.int .i64 7,.int .i64 1,.int .i64 11] w fun e w'=>e= .returned (.int .u32 (n / 128%2*2048))∧Dr w w':=by
 have hm:bits .and .u32 (n / 128) 1=n / 128%2:=A9 1 (by omega) (by omega) (by decide) rfl;exact T9
theorem A5V(n:Int)(h0:0≤n)(h1:n<4294967296)(w:World):Calls prog 90 #[.int .u32 n,.int .i64 8,.int .i64 4,.int .i64 1] w fun e w'=>e= .returned (.int .u32 (n / 256%16*2))∧Dr w w':=by
 have hm:bits .and .u32 (n / 256) 15=n / 256%16:=A9 4 (by omega) (by omega) (by decide) rfl;exact T9
theorem A2j(n:Int)(h0:0≤n)(h1:n<4294967296)(w:World):Calls prog 90 #[.int .u32 n,.int .i64 31,.int .i64 1,.int .i64 12] w fun e w'=>e= .returned (.int .u32 (n / 2147483648%2*4096))∧Dr w w':=by
 have hm:bits .and .u32 (n / 2147483648) 1=n / 2147483648%2:=A9 1 (by omega) (by omega) (by decide) rfl;exact T9
theorem A2m(n:Int)(h0:0≤n)(h1:n<4294967296)(w:World):Calls prog 90 #[.int .u32 n,.int .i64 20,.int .i64 1,.int .i64 11] w fun e w'=>e= .returned (.int .u32 (n / 1048576%2*2048))∧Dr w w':=by
 have hm:bits .and .u32 (n / 1048576) 1=n / 1048576%2:=A9 1 (by omega) (by omega) (by decide) rfl;exact T9
theorem A2k(n:Int)(h0:0≤n)(h1:n<4294967296)(w:World):Calls prog 90 #[.int .u32 n,.int .i64 21,.int .i64 10,.int .i64 1] w fun e w'=>e= .returned (.int .u32 (n / 2097152%1024*2))∧Dr w w':=by
 have hm:bits .and .u32 (n / 2097152) 1023=n / 2097152%1024:=A9 10 (by omega) (by omega) (by decide) rfl;exact T9
theorem A3l(n:Int)(h0:0≤n)(h1:n<4294967296)(w:World):Calls prog 90 #[.int .u32 n,.int .i64 25,.int .i64 6,.int .i64 5] w fun e w'=>e= .returned (.int .u32 (n / 33554432%64*32))∧Dr w w':=by
 have hm:bits .and .u32 (n / 33554432) 63=n / 33554432%64:=A9 6 (by omega) (by omega) (by decide) rfl;exact T9
theorem A2i(n:Int)(h0:0≤n)(h1:n<4294967296)(w:World):Calls prog 90 #[.int .u32 n,.int .i64 31,.int .i64 1,.int .i64 20] w fun e w'=>e= .returned (.int .u32 (n / 2147483648%2*1048576))∧Dr w w':=by
 have hm:bits .and .u32 (n / 2147483648) 1=n / 2147483648%2:=A9 1 (by omega) (by omega) (by decide) rfl;exact T9
end Go.Proofs.YtajljbmeaeeknaaGreat
