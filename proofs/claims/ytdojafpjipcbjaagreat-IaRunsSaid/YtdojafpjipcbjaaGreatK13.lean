/- -/
import Derived.Deep.QuietTactic
import Derived.BigRegion
import Derived.Laws.BitsAllLaws
import Derived.Test.YtdojafpjipcbjaaGreatK1
import Derived.Test.YtdojafpjipcbjaaGreatK12
open Go.Proofs.Tryz
open Go.Lib (hid)
set_option maxHeartbeats 1000000
set_option maxRecDepth 100000
namespace Go.Proofs.YtdojafpjipcbjaaGreat
open Go.RowKit
set_option linter.unusedVariables false
set_option linter.unusedSimpArgs false
theorem A7M{p:Prop}(h:p:=by
 refine h.m d _ ?_;have hd':d<c.r.length:=by rw[h.rl];exact hd
 unfold A4;rw[List.getElem?_append_left (by simpa using hd'),List.getElem?_map,List.getElem?_eq_getElem hd',List.getD_eq_getElem?_getD,List.getElem?_eq_getElem hd'];rfl
 ):p:=h
structure Mac where
 r:List Int
 f:Int
 a:Int
 m:List Int
 e:Int
def A4(c:Mac)(mv:Value):List Value:=c.r.map (Value.int .u32)++[.int .i64 c.f,.int .u32 c.a,mv,.int .i64 c.e]
def CellsAt(w:World)(b:Nat)(cs:List Value):Prop:=∀k v,cs[k]? =some v→w.cell? ⟨b,k,none⟩=some v∧w.frozen? ⟨b,k,none⟩=false
theorem CellsAt.set{w:World}{b:Nat}{cs:List Value}(h:CellsAt w b cs){k:Nat}(hk:k<cs.length)(u:Value):CellsAt (w.setCell ⟨b,k,none⟩ u) b (cs.set k u):=by
 intro j v hj;have hc:=h k _ (List.getElem?_eq_getElem hk);by_cases e:k=j
 ·subst e;rw[List.getElem?_set_self hk]at hj;cases hj;exact⟨World.cell?_setCell_same _ _ _ hc.1,by rw[World.frozen?_setCell];exact hc.2⟩
 ·rw[List.getElem?_set_ne e]at hj;have:=h j v hj;exact⟨by rw[World.cell?_setCell_other _ _ _ _ (by intro hh;cases hh;exact e rfl)];exact this.1,by rw[World.frozen?_setCell];exact this.2⟩
theorem CellsAt.other{w:World}{b b' k:Nat}{cs:List Value}(h:CellsAt w b cs)(hb:b≠b')(u:Value):CellsAt (w.setCell ⟨b',k,none⟩ u) b cs:=by
 intro j v hj;have:=h j v hj;exact⟨by rw[World.cell?_setCell_other _ _ _ _ (by intro hh;cases hh;exact hb rfl)];exact this.1,by rw[World.frozen?_setCell];exact this.2⟩
theorem CellsAt.lt{w:World}{b:Nat}{cs:List Value}(h:CellsAt w b cs)(h0:0<cs.length):b<w.heap.size:=F0 (h 0 _ (List.getElem?_eq_getElem h0)).1
theorem CellsAt.block{w w':World}{b:Nat}{cs:List Value}(h:CellsAt w b cs)(hb:w'.heap[b]? =w.heap[b]?):CellsAt w' b cs:=fun k v hk=>by
 have:=h k v hk;exact⟨by rw[←this.1];exact World.cell?_of_block (w:=w) hb,by rw[←this.2];exact World.frozen?_of_block (w:=w) hb⟩
def A9j(base T M:Nat)(w:World)(mv:Value)(m:List Int):Prop:=
 (m=[]∧mv= .slice none 0 0)∨∃D cap,mv= .slice (some ⟨D,0,none⟩) m.length cap∧m.length≤cap∧cap≤9223372036854775807∧D≠T∧D≠M∧base≤D∧OInts .u8 w D m
structure Ch(T M:Nat)(mv:Value)(w w':World):Prop where
 os:w'.os=w.os
 tape:w'.tape=w.tape
 output:w'.output=w.output
 size:w.heap.size≤w'.heap.size
 block:∀k,k<w.heap.size→k≠T→k≠M→mv.ownBlock≠some k→w'.heap[k]? =w.heap[k]?
namespace Ch
variable {T M : Nat} {mv : Value} {w w' w2 : World}
theorem refl(T M:Nat)(mv:Value)(w:World):Ch T M mv w w:=⟨rfl,rfl,rfl,Nat.le_refl _,fun _ _ _ _ _=>rfl⟩
theorem trans(h:Ch T M mv w w')(h':Ch T M mv w' w2):Ch T M mv w w2:=
 ⟨h'.os.trans h.os,h'.tape.trans h.tape,h'.output.trans h.output,Nat.le_trans h.size h'.size,fun k hk a b c=>(h'.block k (Nat.lt_of_lt_of_le hk h.size) a b c).trans (h.block k hk a b c)⟩
theorem of_below(h:Below w.heap.size w w'):Ch T M mv w w':=⟨h.os,h.tape,h.output,h.size,fun k hk _ _ _=>h.block k hk⟩
theorem drewN(h:Ch T M mv w w')(n:Nat):Ch T M mv w (w'.drewN n):=⟨h.os,h.tape,h.output,h.size,h.block⟩
theorem drew(h:Ch T M mv w w'):Ch T M mv w w'.drew:=⟨h.os,h.tape,h.output,h.size,h.block⟩
theorem setT(h:Ch T M mv w w')(o:Nat)(u:Value):Ch T M mv w (w'.setCell ⟨T,o,none⟩ u):=
 ⟨h.os,h.tape,h.output,Nat.le_trans h.size (by simp[World.setCell]),fun k hk a b c=>(Below.heap_setCell w' ⟨T,o,none⟩ u k a).trans (h.block k hk a b c)⟩
theorem setM(h:Ch T M mv w w')(o:Nat)(u:Value):Ch T M mv w (w'.setCell ⟨M,o,none⟩ u):=
 ⟨h.os,h.tape,h.output,Nat.le_trans h.size (by simp[World.setCell]),fun k hk a b c=>(Below.heap_setCell w' ⟨M,o,none⟩ u k b).trans (h.block k hk a b c)⟩
theorem setD(h:Ch T M mv w w'){D:Nat}(hD:mv.ownBlock=some D)(o:Nat)(u:Value):Ch T M mv w (w'.setCell ⟨D,o,none⟩ u):=
 ⟨h.os,h.tape,h.output,Nat.le_trans h.size (by simp[World.setCell]),fun k hk a b c=>(Below.heap_setCell w' ⟨D,o,none⟩ u k (fun e=>c (by rw[hD,e]))).trans (h.block k hk a b c)⟩
theorem below{base:Nat}(h:Ch T M mv w w')(hb:base≤w.heap.size)(hT:base≤T)(hM:base≤M)(hD:∀k,mv.ownBlock=some k→base≤k):Below base w w':=
 ⟨h.os,h.tape,h.output,h.size,fun k hk=>h.block k (by omega) (by omega) (by omega) (fun e=>by have:=hD k e;omega)⟩
end Ch
structure MSt(base T M:Nat)(mv:Value)(x:Ins)(z:Int)(fl:Bool)(c:Mac)(w:World):Prop where
 t:CellsAt w T [.pointer (some ⟨M,0,none⟩),.int .i64 x.o,.int .i64 x.d,.int .i64 x.s,.int .i64 x.z,.int .i64 x.i,.int .i64 z,.bool fl]
 m:CellsAt w M (A4 c mv)
 v:A9j base T M w mv c.m
 tm:T≠M
 bt:base≤T
 bm:base≤M
 rl:c.r.length=32
 rb:∀k,0≤c.r.getD k 0∧c.r.getD k 0<4294967296
 ml:c.m.length≤32768
 mb:Byt c.m
 fb:0≤c.f∧c.f≤15
 ab:0≤c.a∧c.a<4294967296
 zz:z=16∨z=32
namespace MSt
variable {base T M : Nat} {mv : Value} {x : Ins} {z : Int} {fl : Bool} {c : Mac} {w w' : World}
theorem cLen(h:MSt base T M mv x z fl c w):(A4 c mv).length=36:=by simp[A4,h.rl]
theorem ltT(h:MSt base T M mv x z fl c w):T<w.heap.size:=h.t.lt (by simp)
theorem ltM(h:MSt base T M mv x z fl c w):M<w.heap.size:=h.m.lt (by rw[h.cLen];decide)
theorem ptr(h:MSt base T M mv x z fl c w):w.cell? ⟨T,0,none⟩=some (.pointer (some ⟨M,0,none⟩)):=(h.t 0 _ rfl).1
theorem xo(h:MSt base T M mv x z fl c w):w.cell? ⟨T,1,none⟩=some (.int .i64 x.o):=(h.t 1 _ rfl).1
theorem xd(h:MSt base T M mv x z fl c w):w.cell? ⟨T,2,none⟩=some (.int .i64 x.d):=(h.t 2 _ rfl).1
theorem xs(h:MSt base T M mv x z fl c w):w.cell? ⟨T,3,none⟩=some (.int .i64 x.s):=(h.t 3 _ rfl).1
theorem xz(h:MSt base T M mv x z fl c w):w.cell? ⟨T,4,none⟩=some (.int .i64 x.z):=(h.t 4 _ rfl).1
theorem xi(h:MSt base T M mv x z fl c w):w.cell? ⟨T,5,none⟩=some (.int .i64 x.i):=(h.t 5 _ rfl).1
theorem sz(h:MSt base T M mv x z fl c w):w.cell? ⟨T,6,none⟩=some (.int .i64 z):=(h.t 6 _ rfl).1
theorem ft(h:MSt base T M mv x z fl c w):w.cell? ⟨T,7,none⟩=some (.bool fl)∧w.frozen? ⟨T,7,none⟩=false:=h.t 7 _ rfl
theorem reg(h:MSt base T M mv x z fl c w){d:Nat}(hd:d<32):w.cell? ⟨M,d,none⟩=some (.int .u32 (c.r.getD d 0))∧w.frozen? ⟨M,d,none⟩=false:=by
 exact A7M
theorem tailAt(h:MSt base T M mv x z fl c w)(k:Nat)(v:Value)(hv:([.int .i64 c.f,.int .u32 c.a,mv,.int .i64 c.e]:List Value)[k]? =some v):w.cell? ⟨M,32+k,none⟩=some v∧w.frozen? ⟨M,32+k,none⟩=false:=by
 refine h.m (32+k) v ?_;unfold A4;rw[List.getElem?_append_right (by simp[h.rl])];simp only[List.length_map,h.rl,Nat.add_sub_cancel_left];exact hv
theorem flg(h:MSt base T M mv x z fl c w):w.cell? ⟨M,32,none⟩=some (.int .i64 c.f)∧w.frozen? ⟨M,32,none⟩=false:=h.tailAt 0 _ rfl
theorem mem(h:MSt base T M mv x z fl c w):w.cell? ⟨M,34,none⟩=some mv∧w.frozen? ⟨M,34,none⟩=false:=h.tailAt 2 _ rfl
theorem en(h:MSt base T M mv x z fl c w):w.cell? ⟨M,35,none⟩=some (.int .i64 c.e)∧w.frozen? ⟨M,35,none⟩=false:=h.tailAt 3 _ rfl
theorem memOther(h:MSt base T M mv x z fl c w){b k:Nat}(hb:b=T∨b=M)(u:Value):A9j base T M (w.setCell ⟨b,k,none⟩ u) mv c.m:=by
 rcases h.v with h|⟨D,cap,e,h1,h2,h3,h4,h5,h6⟩
 ·exact Or.inl h
 ·refine Or.inr ⟨D,cap,e,h1,h2,h3,h4,h5,by simpa using h6.1,fun i hi=>?_⟩;have hD:D≠b:=by rcases hb with rfl|rfl<;>assumption
  refine⟨?_,by rw[World.frozen?_setCell];exact h6.free hi⟩;rw[World.cell?_setCell_other _ _ _ _ (by intro hh;cases hh;exact hD rfl)];exact h6.cell hi
theorem setR(h:MSt base T M mv x z fl c w){d:Nat}(hd:d<32){n:Int}(h0:0≤n)(h1:n<4294967296):MSt base T M mv x z fl {c with r:=c.r.set d n} (w.setCell ⟨M,d,none⟩ (.int .u32 n)):=by
 have hd':d<c.r.length:=by rw[h.rl];exact hd
 refine{h with t:=h.t.other h.tm _,m:=?_,v:=h.memOther (Or.inr rfl) _,rl:=by simp[h.rl],rb:=fun k=>?_}
 ·have:=h.m.set (k:=d) (by rw[h.cLen];omega) (.int .u32 n);have e:(A4 c mv).set d (.int .u32 n)=A4 {c with r:=c.r.set d n} mv:=by
   unfold A4;rw[List.set_append_left _ _ (by simpa using hd'),List.map_set]
  rw[e]at this;exact this
 ·show 0≤(c.r.set d n).getD k 0∧_
  by_cases e:d=k
  ·subst e;rw[List.getD_eq_getElem?_getD,List.getElem?_set_self hd'];exact⟨h0,h1⟩
  ·rw[List.getD_eq_getElem?_getD,List.getElem?_set_ne e,←List.getD_eq_getElem?_getD];exact h.rb k
theorem setTail(h:MSt base T M mv x z fl c w)(k:Nat)(u:Value)(c':Mac)(hk:k<4)(e:([.int .i64 c.f,.int .u32 c.a,mv,.int .i64 c.e]:List Value).set k u=[.int .i64 c'.f,.int .u32 c'.a,mv,.int .i64 c'.e])(hr:c'.r=c.r):CellsAt (w.setCell ⟨M,32+k,none⟩ u) M (A4 c' mv):=by
 have:=h.m.set (k:=32+k) (by rw[h.cLen];omega) u;have e2:(A4 c mv).set (32+k) u=A4 c' mv:=by
  unfold A4;rw[List.set_append_right _ _ (by simp[h.rl]),hr];simp only[List.length_map,h.rl,Nat.add_sub_cancel_left];rw[e]
 rw[e2]at this;exact this
theorem setF(h:MSt base T M mv x z fl c w){n:Int}(h0:0≤n)(h1:n≤15):MSt base T M mv x z fl {c with f:=n} (w.setCell ⟨M,32,none⟩ (.int .i64 n)):=
 {h with t:=h.t.other h.tm _,m:=h.setTail 0 _ {c with f:=n} (by decide) rfl rfl,v:=h.memOther (Or.inr rfl) _,fb:=⟨h0,h1⟩}
theorem setA(h:MSt base T M mv x z fl c w){n:Int}(h0:0≤n)(h1:n<4294967296):MSt base T M mv x z fl {c with a:=n} (w.setCell ⟨M,33,none⟩ (.int .u32 n)):=
 {h with t:=h.t.other h.tm _,m:=h.setTail 1 _ {c with a:=n} (by decide) rfl rfl,v:=h.memOther (Or.inr rfl) _,ab:=⟨h0,h1⟩}
theorem setE(h:MSt base T M mv x z fl c w)(n:Int):MSt base T M mv x z fl {c with e:=n} (w.setCell ⟨M,35,none⟩ (.int .i64 n)):=
 {h with t:=h.t.other h.tm _,m:=h.setTail 3 _ {c with e:=n} (by decide) rfl rfl,v:=h.memOther (Or.inr rfl) _}
theorem setV(h:MSt base T M mv x z fl c w)(b:Bool):MSt base T M mv x z b c (w.setCell ⟨T,7,none⟩ (.bool b)):=
 {h with t:=h.t.set (k:=7) (by simp) _,m:=h.m.other h.tm.symm _,v:=h.memOther (Or.inl rfl) _}
theorem drewN(h:MSt base T M mv x z fl c w)(n:Nat):MSt base T M mv x z fl c (w.drewN n):={h with t:=h.t,m:=h.m,v:=h.v}
theorem drew(h:MSt base T M mv x z fl c w):MSt base T M mv x z fl c w.drew:=h.drewN 1
theorem own(h:MSt base T M mv x z fl c w)(k:Nat)(hk:mv.ownBlock=some k):base≤k∧k<w.heap.size:=by
 rcases h.v with⟨_,e⟩|⟨D,cap,e,h1,h2,h3,h4,h5,h6⟩
 ·rw[e]at hk;cases hk
 ·rw[e]at hk;cases hk;exact⟨h5,h6.1⟩
theorem ints(h:MSt base T M mv x z fl c w):Ints .u8 w mv c.m:=by
 rcases h.v with⟨e1,e⟩|⟨D,cap,e,h1,h2,h3,h4,h5,h6⟩
 ·rw[e,e1];exact Ints.nil _ _
 ·rw[e];have hl:=h.ml;exact⟨some ⟨D,0,none⟩,cap,rfl,h1,⟨by omega,by omega⟩,(fun hh=>by cases hh),fun i hi=>⟨D,0,rfl,h6.1,by rw[Nat.mul_one,Nat.zero_add];exact h6.cell hi⟩⟩
theorem same(h:MSt base T M mv x z fl c w)(hb:Below w.heap.size w w'):MSt base T M mv x z fl c w':=
 {h with
  t:=h.t.block (hb.block _ h.ltT)
  m:=h.m.block (hb.block _ h.ltM)
  v:=by
   rcases h.v with h|⟨D,cap,e,h1,h2,h3,h4,h5,h6⟩
   ·exact Or.inl h
   ·exact Or.inr ⟨D,cap,e,h1,h2,h3,h4,h5,h6.below hb⟩}
end MSt
end Go.Proofs.YtdojafpjipcbjaaGreat
namespace Go.Proofs.YtdojafpjipcbjaaGreat
open Go.RowKit
set_option linter.unusedVariables false
set_option linter.unusedSimpArgs false
section
variable {P : Program} {id : Nat} {Q : Exit → Act → World → Prop} {a : Act} {w : World} {l : List Oper}
theorem B4(n:Nat)(hm:P.follows .mixedOrders=true)(hB:Region.lexTailB .any l.toArray n=true)
  (h:wpQuiet P l.toArray (fun w'=>∃m,w'=w.drewN m) (fun a'=>∀w',(∃m,w'=w.drewN m)→wpList P l.toArray Q (l.drop n) a' w') (l.take n) a):(Code.region id l.toArray true).wp P Q a w:=by
 refine J0 (fun w'=>∃m,w'=w.drewN m) n hm hB ⟨1,rfl⟩ ?_;have e:(fun w'=>∃s:In (fun w'=>∃m,w'=w.drewN m),w'=s.w)=(fun w'=>∃m,w'=w.drewN m):=by
  funext w'
  apply propext;exact⟨fun⟨s,hs⟩=>by rw[hs];exact s.h,fun hw=>⟨⟨w',hw⟩,rfl⟩⟩
 rw[e];exact h
end
def hiB(n z:Int):Bool:=n / (pwZ z / 2)%2==1
section
variable {base T M : Nat} {mv : Value} {x : Ins} {z : Int} {fl : Bool} {c : Mac}
theorem P8(w:World)(h:MSt base T M mv x z fl c w):Calls prog 98 #[.pointer (some ⟨T,0,none⟩)] w fun e w'=>e= .returned (.int .u32 (pwZ z-1))∧w=w':=by
 have hz:=h.sz;have hT:=h.ltT;rcases h.zz with rfl|rfl
 ·clear h;have HP:Hid (pwZ 16-1=65535):=by show _=_;decide
  go_enter func98,ntmps98;go_wp2_with fail
  go_ret;exact⟨U6 HP.out.symm,rfl⟩
 ·clear h;have HP:Hid (pwZ 32-1=4294967295):=by show _=_;decide
  go_enter func98,ntmps98;go_wp2_with fail
  go_ret;exact⟨U6 HP.out.symm,rfl⟩
theorem O9(m k:Nat)(hm:m<2^32)(hk:k≤32):bits .and .u32 (m:Int) ((2^k:Nat)-1:Int)=((m%2^k:Nat):Int):=by
 have hp:(2:Nat)^k≤2^32:=Nat.pow_le_pow_right (by decide) hk;have hp0:0<(2:Nat)^k:=Nat.two_pow_pos k;have e1:(BitVec.ofInt 32 ((2^k:Nat)-1:Int)).toNat=2^k-1:=by
  rw[BitVec.toNat_ofInt];generalize(2:Nat)^k=p at*
  have:((p:Int)-1)%((2^32:Nat):Int)=(p:Int)-1:=Int.emod_eq_of_lt (by omega) (by omega);rw[this];omega
 have e2:(BitVec.ofInt 32 (m:Int)).toNat=m:=by
  rw[BitVec.toNat_ofInt];have:((m:Int))%((2^32:Nat):Int)=(m:Int):=Int.emod_eq_of_lt (by omega) (by omega);rw[this];omega
 show IntKind.u32.wrap ((BitVec.ofInt 32 (m:Int)&&&BitVec.ofInt 32 ((2^k:Nat)-1:Int)).toNat:Nat)=_
 rw[BitVec.toNat_and,e1,e2,Nat.and_two_pow_sub_one_eq_mod,IntKind.wrap_u32];have:=Nat.mod_lt m hp0;generalize m%2^k=t at*
 omega
theorem V8(n z:Int)(hz:z=16∨z=32)(h0:0≤n)(h1:n<4294967296):bits .and .u32 n (pwZ z-1)=n%pwZ z:=by
 obtain⟨m,rfl⟩:=Int.eq_ofNat_of_zero_le h0;rcases hz with rfl|rfl
 ·exact O9 m 16 (by omega) (by decide)
 ·exact O9 m 32 (by omega) (by decide)
theorem V9(n:Int)(h0:0≤n)(h1:n<4294967296):bits .and .u32 n 1=n%2:=by
 obtain⟨m,rfl⟩:=Int.eq_ofNat_of_zero_le h0;exact O9 m 1 (by omega) (by decide)
theorem F8(d:Nat)(hd:d<32)(w:World)(h:MSt base T M mv x z fl c w):Calls prog 72 #[.pointer (some ⟨T,0,none⟩),.int .i64 (d:Int)] w fun e w'=>e= .returned (.int .u32 (c.r.getD d 0%pwZ z))∧Dr w w':=by
 have hp:=h.ptr;have hT:=h.ltT;have hM:=h.ltM;have hr:=(h.reg hd).1;have HA:=hid (V8 (c.r.getD d 0) z h.zz (h.rb d).1 (h.rb d).2);have CM:=hid (fun wk (hk:MSt base T M mv x z fl c wk)=>P8 wk hk);have HS:=hid (fun n=>h.drewN n);have hd1:(d:Int)<32:=by omega
 generalize c.r.getD d 0=a at*
 generalize pwZ z-1=m at*
 clear h;go_enter func72,ntmps72;go_wp2_with fail
 go_quiet(first|(go_at_call 98;with_reducible exact B8 (CM.out _ (HS.out _))))
 go_wp2_with fail
 go_ret;exact⟨U6 HA.out,_,rfl⟩
theorem K5(b:Bool)(f:Int)(w:World):Calls prog 81 #[.bool b,.int .i64 f] w fun e w'=>e= .returned (.int .i64 (if b then f else 0))∧w=w':=by
 cases b
 ·go_enter func81,ntmps81;go_wp2_with fail
  go_ret;exact⟨rfl,rfl⟩
 ·go_enter func81,ntmps81;go_wp2_with fail
  go_ret;exact⟨rfl,rfl⟩
theorem L7(n:Int)(w:World)(h:MSt base T M mv x z fl c w)(h0:0≤n)(h1:n<4294967296):Calls prog 101 #[.pointer (some ⟨T,0,none⟩),.int .u32 n] w fun e w'=>e= .returned (.bool (hiB n z))∧w=w':=by
 have hz:=h.sz;have hT:=h.ltT;rcases h.zz with rfl|rfl
 ·clear h;have HP:Hid ((bits .and .u32 (n / 32768) 1==1)=hiB n 16):=by show _=_;rw[V9 _ (by omega) (by omega)];rfl
  go_enter func101,ntmps101;go_wp2_with fail
  go_ret;exact⟨S6 HP.out,rfl⟩
 ·clear h;have HP:Hid ((bits .and .u32 (n / 2147483648) 1==1)=hiB n 32):=by show _=_;rw[V9 _ (by omega) (by omega)];rfl
  go_enter func101,ntmps101;go_wp2_with fail
  go_ret;exact⟨S6 HP.out,rfl⟩
def wrR(old n z:Int):Int:=old-old%pwZ z+n%pwZ z
theorem A4f(a:Nat)(ha:a<2^32):a&&&(65535<<<16)=(a>>>16)<<<16:=by
 apply Nat.eq_of_testBit_eq;intro i;rw[Nat.testBit_and,Nat.testBit_shiftLeft,Nat.testBit_shiftLeft,Nat.testBit_shiftRight];by_cases h:i≥16
 ·simp only[h,decide_true,Bool.true_and];rw[show 16+(i-16)=i by omega,show(65535:Nat)=2^16-1 from rfl,Nat.testBit_two_pow_sub_one];by_cases h2:i-16<16
  ·simp[h2]
  ·have:a.testBit i=false:=Nat.testBit_lt_two_pow (Nat.lt_of_lt_of_le ha (Nat.pow_le_pow_right (by decide) (by omega)));simp[this]
 ·simp[h]
theorem A4D(a n z:Int)(hz:z=16∨z=32)(a0:0≤a)(a1:a<4294967296)(n0:0≤n)(n1:n<4294967296):bits .or .u32 (bits .andNot .u32 a (pwZ z-1)) (bits .and .u32 n (pwZ z-1))=wrR a n z:=by
 rw[V8 n z hz n0 n1];obtain⟨x,rfl⟩:=Int.eq_ofNat_of_zero_le a0;obtain⟨y,rfl⟩:=Int.eq_ofNat_of_zero_le n0;have hx:x<4294967296:=by omega
 have hy:y<4294967296:=by omega
 rcases hz with rfl|rfl
 ·have e1:bits .andNot .u32 (x:Int) (pwZ 16-1)=(((x>>>16)<<<16:Nat):Int):=by
   have:=u32_andNot_nat x 65535 hx (by decide);rw[show(4294967295-65535:Nat)=65535<<<16 from rfl,A4f x hx]at this;exact this
  have e2:((y:Int)%pwZ 16)=((y%65536:Nat):Int):=rfl;have hs:(x>>>16)<<<16=x / 65536*65536:=by rw[Nat.shiftLeft_eq,Nat.shiftRight_eq_div_pow]
  rw[e1,e2,u32_or_nat _ _ (by rw[hs];omega) (by omega),hs,nat_join 16 (x / 65536*65536) (y%65536) (Nat.mul_mod_left _ _) (Nat.mod_lt _ (by decide))];unfold wrR;show _=(x:Int)-x%65536+y%65536
  omega
 ·have e1:bits .andNot .u32 (x:Int) (pwZ 32-1)=((0:Nat):Int):=by
   have:=u32_andNot_nat x 4294967295 hx (by decide);rw[show(4294967295-4294967295:Nat)=0 from rfl,Nat.and_zero]at this;exact this
  have e2:((y:Int)%pwZ 32)=((y:Nat):Int):=by show(y:Int)%4294967296=_;omega
  rw[e1,e2,u32_or_nat _ _ (by decide) hy,Nat.zero_or];unfold wrR;show _=(x:Int)-x%4294967296+y%4294967296
  omega
theorem A7f(a n z:Int)(hz:z=16∨z=32)(a0:0≤a)(a1:a<4294967296)(n0:0≤n):0≤wrR a n z∧wrR a n z<4294967296:=by
 unfold wrR;rcases hz with rfl|rfl
 ·show 0≤a-a%65536+n%65536∧a-a%65536+n%65536<_;omega
 ·show 0≤a-a%4294967296+n%4294967296∧a-a%4294967296+n%4294967296<_;omega
theorem G1(d:Nat)(hd:d<32)(n:Int)(w:World)(h:MSt base T M mv x z fl c w)(n0:0≤n)(n1:n<4294967296):Calls prog 71 #[.pointer (some ⟨T,0,none⟩),.int .i64 (d:Int),.int .u32 n] w fun e w'=>e= .returned (.tuple #[])∧MSt base T M mv x z fl {c with r:=c.r.set d (wrR (c.r.getD d 0) n z)} w'∧Ch T M mv w w':=by
 have hp:=h.ptr;have hT:=h.ltT;have hM:=h.ltM;obtain⟨hr,hf⟩:=h.reg hd;have HJ:=hid (A4D (c.r.getD d 0) n z h.zz (h.rb d).1 (h.rb d).2 n0 n1);have CM:=hid (fun wk (hk:MSt base T M mv x z fl c wk)=>P8 wk hk);have HS:=hid h;have hbd:=A7f (c.r.getD d 0) n z h.zz (h.rb d).1 (h.rb d).2 n0;have HS2:=hid (fun k=>(h.drewN k).setR hd hbd.1 hbd.2);have hd1:(d:Int)<32:=by omega
 rw[←HJ.out]at HS2⊢;clear HJ hbd;generalize c.r.getD d 0=a at*
 generalize pwZ z-1=m at*
 clear h;go_enter func71,ntmps71;go_wp2_with fail
 refine B4 25 (by kernel_rfl) (by kernel_rfl) ?_;simp only[List.take_succ_cons,List.take_zero,List.drop_succ_cons,List.drop_zero]
 repeat(quiet_step (first|(go_at_call 98;with_reducible exact B8 (CM.out _ (HS.out.drewN _)))))
 refine wpQuiet_nil ?_;intro _ hw';obtain⟨nq,hw''⟩:=hw';subst hw'';go_wp2_with fail
 exact bodyPost_end (v:=.tuple #[]) (by simp[results,results71,go_sem]) rfl ⟨rfl,HS2.out nq,((Ch.refl _ _ _ _).drewN _).setM _ _⟩
end
end Go.Proofs.YtdojafpjipcbjaaGreat
namespace Go.Proofs.YtdojafpjipcbjaaGreat
open Go.RowKit
set_option linter.unusedVariables false
set_option linter.unusedSimpArgs false
def rsF(n z other:Int):Int:=other+(if n%pwZ z=0 then 2 else 0)+(if hiB n z then 4 else 0)
def OthF(o:Int):Prop:=o=0∨o=1∨o=8∨o=9
theorem OthF.or2{o:Int}(h:OthF o):bits .or .i64 o 2=o+2:=by rcases h with rfl|rfl|rfl|rfl<;>decide
theorem OthF.or4{o:Int}(h:OthF o):bits .or .i64 o 4=o+4:=by rcases h with rfl|rfl|rfl|rfl<;>decide
theorem OthF.or6{o:Int}(h:OthF o):bits .or .i64 (o+2) 4=o+6:=by rcases h with rfl|rfl|rfl|rfl<;>decide
theorem OthF.bd{o:Int}(h:OthF o):0≤o∧o≤9:=by rcases h with rfl|rfl|rfl|rfl<;>decide
section
variable {base T M : Nat} {mv : Value} {x : Ins} {z : Int} {fl : Bool} {c : Mac}
theorem M1(n o:Int)(w:World)(h:MSt base T M mv x z fl c w)(n0:0≤n)(n1:n<4294967296)(ho:OthF o):Calls prog 102 #[.pointer (some ⟨T,0,none⟩),.int .u32 n,.int .i64 o] w fun e w'=>e= .returned (.tuple #[])∧MSt base T M mv x z fl {c with f:=rsF n z o} w'∧Ch T M mv w w':=by
 have hp:=h.ptr;have hT:=h.ltT;have hM:=h.ltM;have hTM:=h.tm;have hMT:=h.tm.symm;obtain⟨hf,hff⟩:=h.flg;have hbd:=ho.bd;have o2:=ho.or2;have o4:=ho.or4;have o6:=ho.or6;have HA:=V8 n z h.zz n0 n1;have CM:=hid (fun(c':Mac) wk (hk:MSt base T M mv x z fl c' wk)=>P8 wk hk);have CH:=hid (fun(c':Mac) wk (hk:MSt base T M mv x z fl c' wk)=>L7 n wk hk n0 n1);have S0:=h.setF (n:=o) (by omega) (by omega);have H0:=hid S0;have H1:=hid (S0.setF (n:=o+2) (by omega) (by omega));have H2:=hid (S0.setF (n:=o+4) (by omega) (by omega));have H3:=hid ((S0.setF (n:=o+2) (by omega) (by omega)).setF (n:=o+6) (by omega) (by omega));have HR:Hid (rsF n z o=o+(if n%pwZ z=0 then 2 else 0)+(if hiB n z then 4 else 0)):=rfl;obtain⟨b1,hb1⟩:∃b,hiB n z=b:=⟨_,rfl⟩
 rw[hb1]at CH;obtain⟨b0,hb0⟩:∃b,(bits .and .u32 n (pwZ z-1)==0)=b:=⟨_,rfl⟩
 have hq:n%pwZ z=0↔b0=true:=by rw[←hb0,HA];simp
 have HQ:=hid hq;have HB1:=hid hb1;generalize pwZ z-1=m at*
 clear h S0 HA hb1 hq ho;cases b0
 ·cases b1
  ·have HV:Hid (rsF n z o=o):=hid (by rw[HR.out,if_neg (fun e=>by simpa using HQ.out.1 e),HB1.out];simp);go_enter func102,ntmps102;go_wp2_with((with_reducible first|refine(CM.out _ _ H0.out).mono ?_|refine(CH.out _ _ H0.out).mono ?_);rintro e w' ⟨rfl,rfl⟩)
   exact bodyPost_end (v:=.tuple #[]) (by simp[results,results102,go_sem]) rfl ⟨rfl,by rw[HV.out];exact H0.out,(Ch.refl _ _ _ _).setM _ _⟩
  ·have HV:Hid (rsF n z o=o+4):=hid (by rw[HR.out,if_neg (fun e=>by simpa using HQ.out.1 e),HB1.out];simp);go_enter func102,ntmps102;go_wp2_with((with_reducible first|refine(CM.out _ _ H0.out).mono ?_|refine(CH.out _ _ H0.out).mono ?_);rintro e w' ⟨rfl,rfl⟩)
   exact bodyPost_end (v:=.tuple #[]) (by simp[results,results102,go_sem]) rfl ⟨rfl,by rw[HV.out];exact H2.out,((Ch.refl _ _ _ _).setM _ _).setM _ _⟩
 ·cases b1
  ·have HV:Hid (rsF n z o=o+2):=hid (by rw[HR.out,if_pos (HQ.out.2 rfl),HB1.out];simp);go_enter func102,ntmps102;go_wp2_with((with_reducible first|refine(CM.out _ _ H0.out).mono ?_|refine(CH.out _ _ H1.out).mono ?_);rintro e w' ⟨rfl,rfl⟩)
   exact bodyPost_end (v:=.tuple #[]) (by simp[results,results102,go_sem]) rfl ⟨rfl,by rw[HV.out];exact H1.out,((Ch.refl _ _ _ _).setM _ _).setM _ _⟩
  ·have HV:Hid (rsF n z o=o+6):=hid (by rw[HR.out,if_pos (HQ.out.2 rfl),HB1.out];simp;omega);go_enter func102,ntmps102;go_wp2_with((with_reducible first|refine(CM.out _ _ H0.out).mono ?_|refine(CH.out _ _ H1.out).mono ?_);rintro e w' ⟨rfl,rfl⟩)
   exact bodyPost_end (v:=.tuple #[]) (by simp[results,results102,go_sem]) rfl ⟨rfl,by rw[HV.out];exact H3.out,(((Ch.refl _ _ _ _).setM _ _).setM _ _).setM _ _⟩
end
end Go.Proofs.YtdojafpjipcbjaaGreat
namespace Go.Proofs.YtdojafpjipcbjaaGreat
open Go.RowKit
set_option linter.unusedVariables false
set_option linter.unusedSimpArgs false
theorem B1Q{p:Prop}(h:p:=by
 go_wp2_with(first|((with_reducible first|refine(CM.out).mono ?_|refine(CA.out).mono ?_|refine(CB.out).mono ?_|refine(CN.out).mono ?_|refine(C1.out).mono ?_|refine(C8.out _).mono ?_);rintro e w' ⟨rfl,rfl⟩)|((with_reducible refine(CR.out _ (by assumption)).mono ?_);rintro e w1 ⟨rfl,hm1,hc1⟩))
 go_ret;exact⟨rfl,hm1,hc1⟩
 ):p:=h
theorem D6{z:Int}(h:z=16∨z=32):0<pwZ z∧pwZ z≤4294967296∧pwZ z∣4294967296:=by
 rcases h with rfl|rfl
 ·exact⟨by decide,by decide,by decide⟩
 ·exact⟨by decide,by decide,by decide⟩
def adN(a b z:Int):Int:=(a+b)%pwZ z
def adO(a b z:Int):Int:=(if pwZ z≤a+b then 1 else 0)+(if hiB a z=hiB b z∧hiB (adN a b z) z≠hiB a z then 8 else 0)
def suN(a b z:Int):Int:=(a-b)%pwZ z
def suO(a b z:Int):Int:=(if a<b then 1 else 0)+(if hiB a z≠hiB b z∧hiB (suN a b z) z≠hiB a z then 8 else 0)
theorem A2I{a b z:Int}(h:z=16∨z=32):0≤adN a b z∧adN a b z<pwZ z:=⟨Int.emod_nonneg _ (by have:=(D6 h).1;omega),Int.emod_lt_of_pos _ (D6 h).1⟩
theorem Z2{a b z:Int}(h:z=16∨z=32):0≤suN a b z∧suN a b z<pwZ z:=⟨Int.emod_nonneg _ (by have:=(D6 h).1;omega),Int.emod_lt_of_pos _ (D6 h).1⟩
theorem A4a{p q:Prop}[Decidable p][Decidable q]:OthF ((if p then 1 else 0)+(if q then 8 else 0)):=by
 unfold OthF;by_cases hp:p<;>by_cases hq:q<;>simp[hp,hq]
theorem U8(n z:Int)(h:z=16∨z=32):bits .and .u32 (IntKind.u32.wrap n) (pwZ z-1)=n%pwZ z:=by
 rw[IntKind.wrap_u32,V8 _ z h (by omega) (by omega)];exact Int.emod_emod_of_dvd _ (D6 h).2.2
section
variable {base T M : Nat} {mv : Value} {x : Ins} {z : Int} {fl : Bool} {c : Mac}
theorem A0n{p:Prop}(h:p:=by
 go_enter func99,ntmps99;exact B1Q
 ):p:=h
theorem A2n(a b:Int)(w:World)(h:MSt base T M mv x z fl c w)(a0:0≤a)(a1:a<4294967296)(b0:0≤b)(b1:b<4294967296):Calls prog 99 #[.pointer (some ⟨T,0,none⟩),.int .u32 a,.int .u32 b] w fun e w'=>e= .returned (.int .u32 (adN a b z))∧MSt base T M mv x z fl {c with f:=rsF (adN a b z) z (adO a b z)} w'∧Ch T M mv w w':=by
 have hpw:=D6 h.zz;have hnb:=A2I (a:=a) (b:=b) h.zz;have HA:=U8 (a+b) z h.zz;have CM:=hid (P8 w h);have CA:=hid (L7 a w h a0 a1);have CB:=hid (L7 b w h b0 b1);have CN:=hid (L7 (adN a b z) w h hnb.1 (by omega));have hm1:pwZ z-1<a+b↔pwZ z≤a+b:=by omega
 obtain⟨p,hp⟩:∃p,decide (pwZ z-1<a+b)=p:=⟨_,rfl⟩
 have C1:=hid (K5 p 1 w);have C8:=hid (fun b=>K5 b 8 w);have hO:adO a b z=(if p=true then 1 else 0)+(if hiB a z=hiB b z∧hiB (adN a b z) z≠hiB a z then 8 else 0):=by
  unfold adO;have:(p=true)=(pwZ z≤a+b):=propext (by rw[←hp,decide_eq_true_iff];exact hm1);simp only[this]
 obtain⟨f1,hf1⟩:∃f,(if p=true then(1:Int)else 0)=f:=⟨_,rfl⟩
 rw[hf1]at C1 hO;have hf:f1=0∨f1=1:=by rw[←hf1];split<;>simp
 have ho8:bits .or .i64 f1 8=f1+8:=by rcases hf with rfl|rfl<;>decide
 have ho0:bits .or .i64 f1 0=f1:=by rcases hf with rfl|rfl<;>decide
 have hth:OthF (adO a b z):=A4a;have CR:=hid (fun o (ho:OthF o)=>M1 (adN a b z) o w h hnb.1 (by omega) ho);have HN:bits .and .u32 (IntKind.u32.wrap (a+b)) (pwZ z-1)=adN a b z:=HA;have HO:=hid hO;obtain⟨ha,hha⟩:∃q,hiB a z=q:=⟨_,rfl⟩
 obtain⟨hb,hhb⟩:∃q,hiB b z=q:=⟨_,rfl⟩
 obtain⟨hn,hhn⟩:∃q,hiB (adN a b z) z=q:=⟨_,rfl⟩
 rw[hha]at CA HO;rw[hhb]at CB HO;rw[hhn]at CN HO;have HTH:=hid hth;have hwr:IntKind.u32.wrap (a+b)=(a+b)%4294967296:=IntKind.wrap_u32 _;generalize adN a b z=n at*
 generalize adO a b z=o at*
 have hmb:0≤pwZ z-1∧pwZ z-1<4294967296:=by omega
 generalize pwZ z-1=m at*
 clear h hpw hnb HA hf1 hf hO hha hhb hhn hth hm1;rw[hwr]at HN;clear hwr;cases ha<;>cases hb<;>cases hn
 ·have HV:Hid (o=f1):=hid (by rw[HO.out];simp);have hoth:OthF (f1):=by rw[←HV.out];exact HTH.out
  rw[HV.out];clear HO HV HTH;exact A0n
 ·have HV:Hid (o=f1+8):=hid (by rw[HO.out];simp);have hoth:OthF (f1+8):=by rw[←HV.out];exact HTH.out
  rw[HV.out];clear HO HV HTH;exact A0n
 ·have HV:Hid (o=f1):=hid (by rw[HO.out];simp);have hoth:OthF (f1):=by rw[←HV.out];exact HTH.out
  rw[HV.out];clear HO HV HTH;exact A0n
 ·have HV:Hid (o=f1):=hid (by rw[HO.out];simp);have hoth:OthF (f1):=by rw[←HV.out];exact HTH.out
  rw[HV.out];clear HO HV HTH;exact A0n
 ·have HV:Hid (o=f1):=hid (by rw[HO.out];simp);have hoth:OthF (f1):=by rw[←HV.out];exact HTH.out
  rw[HV.out];clear HO HV HTH;exact A0n
 ·have HV:Hid (o=f1):=hid (by rw[HO.out];simp);have hoth:OthF (f1):=by rw[←HV.out];exact HTH.out
  rw[HV.out];clear HO HV HTH;exact A0n
 ·have HV:Hid (o=f1+8):=hid (by rw[HO.out];simp);have hoth:OthF (f1+8):=by rw[←HV.out];exact HTH.out
  rw[HV.out];clear HO HV HTH;exact A0n
 ·have HV:Hid (o=f1):=hid (by rw[HO.out];simp);have hoth:OthF (f1):=by rw[←HV.out];exact HTH.out
  rw[HV.out];clear HO HV HTH;exact A0n
theorem A0m{p:Prop}(h:p:=by
 go_enter func79,ntmps79;exact B1Q
 ):p:=h
theorem X0(a b:Int)(w:World)(h:MSt base T M mv x z fl c w)(a0:0≤a)(a1:a<4294967296)(b0:0≤b)(b1:b<4294967296):Calls prog 79 #[.pointer (some ⟨T,0,none⟩),.int .u32 a,.int .u32 b] w fun e w'=>e= .returned (.int .u32 (suN a b z))∧MSt base T M mv x z fl {c with f:=rsF (suN a b z) z (suO a b z)} w'∧Ch T M mv w w':=by
 have hpw:=D6 h.zz;have hnb:=Z2 (a:=a) (b:=b) h.zz;have HA:=U8 (a-b) z h.zz;have CM:=hid (P8 w h);have CA:=hid (L7 a w h a0 a1);have CB:=hid (L7 b w h b0 b1);have CN:=hid (L7 (suN a b z) w h hnb.1 (by omega));have hm1:a<b↔a<b:=by omega
 obtain⟨p,hp⟩:∃p,decide (a<b)=p:=⟨_,rfl⟩
 have C1:=hid (K5 p 1 w);have C8:=hid (fun b=>K5 b 8 w);have hO:suO a b z=(if p=true then 1 else 0)+(if hiB a z≠hiB b z∧hiB (suN a b z) z≠hiB a z then 8 else 0):=by
  unfold suO;have:(p=true)=(a<b):=propext (by rw[←hp,decide_eq_true_iff]);simp only[this]
 obtain⟨f1,hf1⟩:∃f,(if p=true then(1:Int)else 0)=f:=⟨_,rfl⟩
 rw[hf1]at C1 hO;have hf:f1=0∨f1=1:=by rw[←hf1];split<;>simp
 have ho8:bits .or .i64 f1 8=f1+8:=by rcases hf with rfl|rfl<;>decide
 have ho0:bits .or .i64 f1 0=f1:=by rcases hf with rfl|rfl<;>decide
 have hth:OthF (suO a b z):=A4a;have CR:=hid (fun o (ho:OthF o)=>M1 (suN a b z) o w h hnb.1 (by omega) ho);have HN:bits .and .u32 (IntKind.u32.wrap (a-b)) (pwZ z-1)=suN a b z:=HA;have HO:=hid hO;obtain⟨ha,hha⟩:∃q,hiB a z=q:=⟨_,rfl⟩
 obtain⟨hb,hhb⟩:∃q,hiB b z=q:=⟨_,rfl⟩
 obtain⟨hn,hhn⟩:∃q,hiB (suN a b z) z=q:=⟨_,rfl⟩
 rw[hha]at CA HO;rw[hhb]at CB HO;rw[hhn]at CN HO;have HTH:=hid hth;have hwr:IntKind.u32.wrap (a-b)=(a-b)%4294967296:=IntKind.wrap_u32 _;generalize suN a b z=n at*
 generalize suO a b z=o at*
 have hmb:0≤pwZ z-1∧pwZ z-1<4294967296:=by omega
 generalize pwZ z-1=m at*
 clear h hpw hnb HA hf1 hf hO hha hhb hhn hth hm1;rw[hwr]at HN;clear hwr;cases ha<;>cases hb<;>cases hn
 ·have HV:Hid (o=f1):=hid (by rw[HO.out];simp);have hoth:OthF (f1):=by rw[←HV.out];exact HTH.out
  rw[HV.out];clear HO HV HTH;exact A0m
 ·have HV:Hid (o=f1):=hid (by rw[HO.out];simp);have hoth:OthF (f1):=by rw[←HV.out];exact HTH.out
  rw[HV.out];clear HO HV HTH;exact A0m
 ·have HV:Hid (o=f1):=hid (by rw[HO.out];simp);have hoth:OthF (f1):=by rw[←HV.out];exact HTH.out
  rw[HV.out];clear HO HV HTH;exact A0m
 ·have HV:Hid (o=f1+8):=hid (by rw[HO.out];simp);have hoth:OthF (f1+8):=by rw[←HV.out];exact HTH.out
  rw[HV.out];clear HO HV HTH;exact A0m
 ·have HV:Hid (o=f1+8):=hid (by rw[HO.out];simp);have hoth:OthF (f1+8):=by rw[←HV.out];exact HTH.out
  rw[HV.out];clear HO HV HTH;exact A0m
 ·have HV:Hid (o=f1):=hid (by rw[HO.out];simp);have hoth:OthF (f1):=by rw[←HV.out];exact HTH.out
  rw[HV.out];clear HO HV HTH;exact A0m
 ·have HV:Hid (o=f1):=hid (by rw[HO.out];simp);have hoth:OthF (f1):=by rw[←HV.out];exact HTH.out
  rw[HV.out];clear HO HV HTH;exact A0m
 ·have HV:Hid (o=f1):=hid (by rw[HO.out];simp);have hoth:OthF (f1):=by rw[←HV.out];exact HTH.out
  rw[HV.out];clear HO HV HTH;exact A0m
theorem M4(n:Int)(w:World)(h:MSt base T M mv x z fl c w)(n0:0≤n)(n1:n<4294967296):Calls prog 100 #[.pointer (some ⟨T,0,none⟩),.int .u32 n] w fun e w'=>e= .returned (.int .u32 n)∧MSt base T M mv x z fl {c with f:=rsF n z 0} w'∧Ch T M mv w w':=by
 have CR:=hid (M1 n 0 w h n0 n1 (Or.inl rfl));clear h;go_enter func100,ntmps100;go_wp2_with((with_reducible refine(CR.out).mono ?_);rintro e w1 ⟨rfl,hm1,hc1⟩)
 go_ret;exact⟨rfl,hm1,hc1⟩
end
end Go.Proofs.YtdojafpjipcbjaaGreat
namespace Go.Proofs.YtdojafpjipcbjaaGreat
open Go.RowKit
set_option linter.unusedVariables false
set_option linter.unusedSimpArgs false
theorem A8d{p:Prop}(h:p:=by
 go_wp2_with fail
 exact bodyPost_ret (v:=.tuple #[]) (by simp[results,results80,go_sem]) rfl ⟨rfl,HVn.out _,((Ch.refl _ _ _ _).drewN _).setT _ _⟩
 ):p:=h
def A7s(n:Int):Int:=if 9223372036854775808≤n then n-18446744073709551616 else n
theorem m9{n:Int}(h0:0≤n)(h1:n<18446744073709551616):wrap64 n=A7s n:=by
 unfold wrap64 A7s;split<;>omega
theorem Y9{n:Int}(h0:0≤n)(h1:n<4294967296):wrap64 (wrap32 n)=D8 n:=by
 unfold wrap64 wrap32 D8;split<;>omega
theorem n7(n:Int): -9223372036854775808≤wrap64 n∧wrap64 n≤9223372036854775807:=by
 unfold wrap64;omega
def N6(d:Nat)(c:Mac):Option Mac:=
 if c.r.getD d 0≤c.r.getD 2 0 then none else
  some {c with r:=(c.r.set 0 ((c.r.getD 2 0*4294967296+c.r.getD 0 0) / c.r.getD d 0)).set 2 ((c.r.getD 2 0*4294967296+c.r.getD 0 0)%c.r.getD d 0)}
def idA(c:Mac):Int:=A7s (c.r.getD 2 0*4294967296+c.r.getD 0 0)
def idF(a b:Int):Bool:=b==0||(a== -9223372036854775808&&b== -1|| !(decide (-2147483648≤a.tdiv b)&&decide (a.tdiv b≤2147483647)))
def R4(d:Nat)(c:Mac):Option Mac:=
 if idF (idA c) (D8 (c.r.getD d 0))=true then none else
  some {c with r:=(c.r.set 0 ((idA c).tdiv (D8 (c.r.getD d 0))%4294967296)).set 2 ((idA c).tmod (D8 (c.r.getD d 0))%4294967296)}
theorem j4{h l:Int}(h0:0≤h)(h1:h<4294967296)(l0:0≤l)(l1:l<4294967296):bits .or .u64 (h*4294967296) l=h*4294967296+l:=by
 obtain⟨x,rfl⟩:=Int.eq_ofNat_of_zero_le h0;obtain⟨y,rfl⟩:=Int.eq_ofNat_of_zero_le l0;have hx:x*4294967296<18446744073709551616:=by omega
 have hy:y<18446744073709551616:=by omega
 have this:bits .or .u64 ((x*4294967296:Nat):Int) (y:Int)=((x*4294967296|||y:Nat):Int):=u64_or_nat _ _ hx hy;have e32:(2:Nat)^32=4294967296:=by simp
 have j1:x*4294967296%2^32=0:=by rw[e32];exact Nat.mul_mod_left _ _
 have j2:y<2^32:=by rw[e32];omega
 have hj:=nat_join 32 (x*4294967296) y j1 j2;rw[hj]at this;have e:((x*4294967296:Nat):Int)=(x:Int)*4294967296:=by omega
 rw[e]at this;rw[this,Int.natCast_add,e]
theorem tdiv_bd{a b:Int}(h: -9223372036854775808≤a∧a≤9223372036854775807)(hb:b≠0)(hn:¬(a= -9223372036854775808∧b= -1)): -9223372036854775808≤a.tdiv b∧a.tdiv b≤9223372036854775807:=by
 by_cases h1:b= -1
 ·subst h1;rw[show(-1:Int)= -(1)from rfl,Int.tdiv_neg,Int.tdiv_one];omega
 ·have e:(a.tdiv b).natAbs=a.natAbs / b.natAbs:=Int.natAbs_tdiv a b;by_cases h2:b=1
  ·subst h2;rw[Int.tdiv_one];exact h
  ·have:a.natAbs / b.natAbs≤a.natAbs / 2:=Nat.div_le_div_left (by omega) (by decide);omega
theorem tmod_bd{a b:Int}(h: -9223372036854775808≤a∧a≤9223372036854775807)(hb: -2147483648≤b∧b≤2147483647)(h0:b≠0): -9223372036854775808≤a.tmod b∧a.tmod b≤9223372036854775807:=by
 have h1:=Int.natAbs_tmod a b;have h2:=Nat.mod_lt a.natAbs (show 0<b.natAbs by omega);omega
theorem A1a{q:Int}(h: -9223372036854775808≤q∧q≤9223372036854775807):(wrap64 q !=wrap64 (wrap32 (wrap64 q)))= !(decide (-2147483648≤q)&&decide (q≤2147483647)):=by
 have e:wrap64 q=q:=IntWalk.wrap64_in _ h;rw[e];by_cases h1: -2147483648≤q
 ·by_cases h2:q≤2147483647
  ·rw[decide_eq_true h1,decide_eq_true h2,show wrap32 q=q by unfold wrap32;omega,e];simp
  ·rw[decide_eq_false h2,Bool.and_false,Bool.not_false,bne_iff_ne];unfold wrap32 wrap64;omega
 ·rw[decide_eq_false h1,Bool.false_and,Bool.not_false,bne_iff_ne];unfold wrap32 wrap64;omega
theorem B0m{p:Prop}(h:p:=by
 go_enter func80,ntmps80;go_wp2_with fail
 go_quiet(fail)
 go_upto_region 7 with fail
 rw[hA,hB];go_quiet(fail)
 exact A8d
 ):p:=h
theorem B0l{p:Prop}(h:p:=by
 go_enter func80,ntmps80;go_wp2_with fail
 go_quiet(fail)
 go_upto_region 7 with fail
 rw[hA,hB];go_quiet(fail)
 try rw[ht]
 exact A8d
 ):p:=h
theorem B0k{p:Prop}(h:p:=by
 go_enter func80,ntmps80;go_wp2_with fail
 go_quiet(fail)
 go_upto_region 7 with fail
 rw[hA,hB];go_quiet(fail)
 try rw[ht]
 go_wp2_with fail
 go_region
 go_wp2_with fail
 have e1:wrap64 (a.tdiv b)%4294967296=a.tdiv b%4294967296:=by rw[IntWalk.wrap64_in _ HQ.out]
 rw[e1];exact bodyPost_end (v:=.tuple #[]) (by simp[results,results80,go_sem]) rfl ⟨rfl,HS.out _ _ _ (Int.emod_nonneg _ (by decide)) (Int.emod_lt_of_pos _ (by decide)) (Int.emod_nonneg _ (by decide)) (Int.emod_lt_of_pos _ (by decide)),(((Ch.refl _ _ _ _).drewN _).setM _ _).setM _ _⟩
 ):p:=h
section
variable {base T M : Nat} {mv : Value} {x : Ins} {z : Int} {fl : Bool} {c : Mac}
theorem A3l(d:Nat)(hd:d<32)(w:World)(h:MSt base T M mv x z fl c w)(hxd:x.d=(d:Int))(hxo:x.o=26):Calls prog 80 #[.pointer (some ⟨T,0,none⟩)] w fun e w'=>e= .returned (.tuple #[])∧MSt base T M mv x z (match N6 d c with|none=>true|some _=>fl) ((N6 d c).getD c) w'∧Ch T M mv w w':=by
 have x1:=h.xd;rw[hxd]at x1;have x0:=h.xo;rw[hxo]at x0;have hp:=h.ptr;have hT:=h.ltT;have hM:=h.ltM;have hTM:=h.tm;have hMT:=h.tm.symm;obtain⟨hf7,hfz⟩:=h.ft;obtain⟨r0,f0⟩:=h.reg (d:=0) (by decide);obtain⟨r2,f2⟩:=h.reg (d:=2) (by decide);have rd:=(h.reg hd).1;have b0:=h.rb 0;have b2:=h.rb 2;have bd:=h.rb d;have hd1:(d:Int)<32:=by omega
 have hj:=j4 b2.1 b2.2 b0.1 b0.2;have H0:=hid h;have HV:Hid (MSt base T M mv x z true c (w.setCell ⟨T,7,none⟩ (.bool true))):=h.setV true;by_cases hle:c.r.getD d 0≤c.r.getD 2 0
 ·have hD:N6 d c=none:=by unfold N6;rw[if_pos hle]
  rw[hD];have hdl:decide (c.r.getD d 0≤c.r.getD 2 0)=true:=decide_eq_true hle;have HVn:=hid (fun n=>(h.drewN n).setV true);generalize c.r.getD d 0=by' at*
  generalize c.r.getD 2 0=hi at*
  generalize c.r.getD 0 0=lo at*
  clear h hxd hxo hD;go_enter func80,ntmps80;go_wp2_with fail
  go_quiet(fail)
  exact A8d
 ·have hD:N6 d c=some {c with r:=(c.r.set 0 ((c.r.getD 2 0*4294967296+c.r.getD 0 0) / c.r.getD d 0)).set 2 ((c.r.getD 2 0*4294967296+c.r.getD 0 0)%c.r.getD d 0)}:=by unfold N6;rw[if_neg hle]
  rw[hD];have hdl:decide (c.r.getD d 0≤c.r.getD 2 0)=false:=decide_eq_false hle;have hq:0≤(c.r.getD 2 0*4294967296+c.r.getD 0 0) / c.r.getD d 0∧(c.r.getD 2 0*4294967296+c.r.getD 0 0) / c.r.getD d 0<4294967296:=by
   refine⟨Int.ediv_nonneg (by omega) (by omega),Int.ediv_lt_of_lt_mul (by omega) ?_⟩;have:(c.r.getD 2 0+1)*4294967296≤c.r.getD d 0*4294967296:=Int.mul_le_mul_of_nonneg_right (by omega) (by omega);rw[Int.mul_comm 4294967296];omega
  have hm:0≤(c.r.getD 2 0*4294967296+c.r.getD 0 0)%c.r.getD d 0∧(c.r.getD 2 0*4294967296+c.r.getD 0 0)%c.r.getD d 0<4294967296:=by
   have h1:=Int.emod_nonneg (c.r.getD 2 0*4294967296+c.r.getD 0 0) (show c.r.getD d 0≠0 by omega);have h2:=Int.emod_lt_of_pos (c.r.getD 2 0*4294967296+c.r.getD 0 0) (show 0<c.r.getD d 0 by omega);omega
  have HVn:=hid (fun n=>((h.drewN n).setR (d:=0) (by decide) hq.1 hq.2).setR (d:=2) (by decide) hm.1 hm.2);have hnb:0≤c.r.getD 2 0*4294967296+c.r.getD 0 0∧c.r.getD 2 0*4294967296+c.r.getD 0 0<18446744073709551616:=by omega
  generalize hQ:(c.r.getD 2 0*4294967296+c.r.getD 0 0) / c.r.getD d 0=q at*
  generalize hR:(c.r.getD 2 0*4294967296+c.r.getD 0 0)%c.r.getD d 0=r at*
  have HQ:=hid hQ;have HR:=hid hR;clear hQ hR;generalize c.r.getD d 0=by' at*
  generalize c.r.getD 2 0=hi at*
  generalize c.r.getD 0 0=lo at*
  clear h hxd hxo hD;go_enter func80,ntmps80;go_wp2_with fail
  go_quiet(fail)
  go_wp2_with fail
  go_region
  go_wp2_with fail
  have e1:(hi*4294967296+lo) / by'%4294967296=q:=by rw[HQ.out];omega
  have e2:(hi*4294967296+lo)%by'%4294967296=r:=by rw[HR.out];omega
  rw[e1,e2];exact bodyPost_ret (v:=.tuple #[]) (by simp[results,results80,go_sem]) rfl ⟨rfl,HVn.out _,((((Ch.refl _ _ _ _).drewN _).setM _ _).setM _ _)⟩
theorem A3k(d:Nat)(hd:d<32)(w:World)(h:MSt base T M mv x z fl c w)(hxd:x.d=(d:Int))(hxo:x.o=27):Calls prog 80 #[.pointer (some ⟨T,0,none⟩)] w fun e w'=>e= .returned (.tuple #[])∧MSt base T M mv x z (match R4 d c with|none=>true|some _=>fl) ((R4 d c).getD c) w'∧Ch T M mv w w':=by
 have x1:=h.xd;rw[hxd]at x1;have x0:=h.xo;rw[hxo]at x0;have hp:=h.ptr;have hT:=h.ltT;have hM:=h.ltM;have hTM:=h.tm;have hMT:=h.tm.symm;obtain⟨hf7,hfz⟩:=h.ft;obtain⟨r0,f0⟩:=h.reg (d:=0) (by decide);obtain⟨r2,f2⟩:=h.reg (d:=2) (by decide);have rd:=(h.reg hd).1;have b0:=h.rb 0;have b2:=h.rb 2;have bd:=h.rb d;have hd1:(d:Int)<32:=by omega
 have hj:=j4 b2.1 b2.2 b0.1 b0.2;have H0:=hid h;have HVn:=hid (fun n=>(h.drewN n).setV true);have hA:wrap64 (c.r.getD 2 0*4294967296+c.r.getD 0 0)=idA c:=m9 (by omega) (by omega);have hB:wrap64 (wrap32 (c.r.getD d 0))=D8 (c.r.getD d 0):=Y9 bd.1 bd.2;have hab: -9223372036854775808≤idA c∧idA c≤9223372036854775807:=by rw[←hA];exact n7 _
 have hbb: -2147483648≤D8 (c.r.getD d 0)∧D8 (c.r.getD d 0)≤2147483647:=by unfold D8;split<;>omega
 have hD:R4 d c=if idF (idA c) (D8 (c.r.getD d 0))=true then none else some {c with r:=(c.r.set 0 ((idA c).tdiv (D8 (c.r.getD d 0))%4294967296)).set 2 ((idA c).tmod (D8 (c.r.getD d 0))%4294967296)}:=rfl
 rw[hD];have HS:=hid (fun n (q r:Int) (q0:0≤q) (q1:q<4294967296) (r0:0≤r) (r1:r<4294967296)=>((h.drewN n).setR (d:=0) (by decide) q0 q1).setR (d:=2) (by decide) r0 r1);clear hD;generalize idA c=a at*
 generalize D8 (c.r.getD d 0)=b at*
 generalize c.r.getD d 0=by' at*
 generalize c.r.getD 2 0=hi at*
 generalize c.r.getD 0 0=lo at*
 clear h;have HF:Hid (idF a b=(b==0||(a== -9223372036854775808&&b== -1|| !(decide (-2147483648≤a.tdiv b)&&decide (a.tdiv b≤2147483647))))):=rfl;obtain⟨ff,hff⟩:∃q,idF a b=q:=⟨_,rfl⟩
 rw[hff];rw[hff]at HF;clear hff;cases p0:(b==0)
 rotate_left
 ·obtain rfl:ff=true:=by rw[HF.out,p0];rfl
  rw[if_pos rfl];exact B0m
 have hb0:b≠0:=by simpa using p0
 cases p1:(a== -9223372036854775808)
 ·have ha1:a≠-9223372036854775808:=by simpa using p1
  have htd:=tdiv_bd hab hb0 (fun e=>ha1 e.1);have htm:=tmod_bd hab hbb hb0;have HQ:=hid htd;have HM:=hid htm;have ht:(wrap64 (a.tdiv b) !=wrap64 (wrap32 (wrap64 (a.tdiv b))))=ff:=by rw[A1a htd,HF.out,p0,p1];simp
  clear htd htm ha1;cases ff
  ·rw[if_neg (by simp)];exact B0k
  ·rw[if_pos rfl];exact B0l
 ·cases p2:(b== -1)
  ·have hb1:b≠-1:=by simpa using p2
   have htd:=tdiv_bd hab hb0 (fun e=>hb1 e.2);have htm:=tmod_bd hab hbb hb0;have HQ:=hid htd;have HM:=hid htm;have ht:(wrap64 (a.tdiv b) !=wrap64 (wrap32 (wrap64 (a.tdiv b))))=ff:=by rw[A1a htd,HF.out,p0,p1,p2];simp
   clear htd htm hb1;cases ff
   ·rw[if_neg (by simp)];exact B0k
   ·rw[if_pos rfl];exact B0l
  ·obtain rfl:ff=true:=by rw[HF.out,p0,p1,p2];rfl
   rw[if_pos rfl];exact B0m
end
end Go.Proofs.YtdojafpjipcbjaaGreat
