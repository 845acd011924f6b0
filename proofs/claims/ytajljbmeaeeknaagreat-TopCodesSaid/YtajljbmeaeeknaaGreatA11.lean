/- -/
import Derived.Deep.AppendLies
import Derived.Deep.Onto
import Derived.Deep.DeepMust
import Derived.Test.YtajljbmeaeeknaaGreatA10
open Go.Proofs.Tryz
open Go.Lib (hid)
set_option maxHeartbeats 1000000
set_option maxRecDepth 100000
namespace Go.Proofs.YtajljbmeaeeknaaGreat
open Go.RowKit
set_option linter.unusedVariables false
set_option linter.unusedSimpArgs false
theorem RowI.mono{w:World}{base base':Nat}{e:TypeId}{k:IntKind}{v:Value}{xs:List Int}(h:RowI w base e k v xs)(hb:base'≤base):RowI w base' e k v xs:=World.ownsRow.mono h hb
theorem R8{P:Program}{f:FuncId}{args:Array Value}{w:World}{e0:TypeId}{k:IntKind}{xs:List Int}(h:Calls P f args w fun e w'=>∃v,e= .returned v∧RowI w' w.heap.size e0 k v xs∧Below w.heap.size w w'){w0:World}(h0:Since w0 w):
  Calls P f args w fun e w'=>∃v,e= .returned v∧RowI w' w0.heap.size e0 k v xs∧Below w.heap.size w w'∧Since w0 w':=
 h.mono fun _ _ ⟨v,h1,h2,h3⟩=>⟨v,h1,h2.mono h0.size,h3,A7 h0 h3⟩
section
variable {P : Program} {w : World}
theorem D3{ops:Array Oper}{o:Oper}{a:Act}{K:Act→World→Prop}{Q:Exit→Act→World→Prop}{E:Prop}{k:IntKind}(hgd:o.guard=none)(s x:Operand)(t:TypeId)
  (ho:o.op= .call {callee:=.builtin .append,args:=#[s,x],argTypes:=#[t,t]}) (base:Nat) (e:TypeId) (i:TypeInfo) (bytes:Nat) (ht:P.underlying t=some (.slice e)) (hi:P.info? e=some i) (hz:i.zero=some (.int k 0))
  (hsize:i.size=1) (hby:i.bytes=bytes) (hb8:bytes≤8) (v:Value) (xs:List Int) (hs:a.eval s=v) (hown:RowI w base e k v xs)
  (u:Value) (ys:List Int) (hx:a.eval x=u) (hu:Ints k w u ys) (hm:0<ys.length) (hl:xs.length+ys.length≤100000) (hbase:base≤w.heap.size)
  (h:∀v' w',RowI w' base e k v' (xs++ys)→Below base w w'→K (a.put o.dst v') w'):if Region.wanted o (yielded ops a.tmps)=true then Oper.wp P o a w K Q else E:=by
 obtain⟨b,q,c,rfl,_,_⟩:=hu.at hm;have hn:=hu.newsK;refine step_append_lies (w:=w) hgd s x t ho base e i (.int k 0) 1 bytes ht hi hz hsize hby rfl (by decide) v xs.length (xs.map (Value.int k)) hs hown ⟨b,q,none⟩ ys.length c (ys.map (Value.int k)) hx (by simp) hn (fun u hu=>by obtain⟨x,_,rfl⟩:=List.mem_map.1 hu;rfl) hm (by unfold maxLen;omega) ?_ hbase w.heap.size rfl ?_
 ·have:(xs.length+ys.length)*bytes≤100000*8:=Nat.mul_le_mul hl hb8;omega
 ·intro g cap w' hown' hgrow _ _;exact h _ w' (RowI.app hown' rfl rfl) ((Below.refl base w).grown hgrow hbase (V1 hown))
theorem Q7{ops:Array Oper}{rest:List Oper}{o:Oper}{a:Act}{Q:Exit→Act→World→Prop}{k:IntKind}(hgd:o.guard=none)(s x:Operand)(t:TypeId)
  (ho:o.op= .call {callee:=.builtin .append,args:=#[s,x],argTypes:=#[t,t]}) (base:Nat) (e:TypeId) (i:TypeInfo) (bytes:Nat) (ht:P.underlying t=some (.slice e)) (hi:P.info? e=some i) (hz:i.zero=some (.int k 0))
  (hsize:i.size=1) (hby:i.bytes=bytes) (hb8:bytes≤8) (v:Value) (xs:List Int) (hs:a.eval s=v) (hown:RowI w base e k v xs)
  (u:Value) (ys:List Int) (hx:a.eval x=u) (hu:Ints k w u ys) (hm:0<ys.length) (hl:xs.length+ys.length≤100000) (hbase:base≤w.heap.size)
  (h:∀v' w',RowI w' base e k v' (xs++ys)→Below base w w'→wpList P ops Q rest (a.put o.dst v') w'):wpList P ops Q (o::rest) a w:=by
 obtain⟨b,q,c,rfl,_,_⟩:=hu.at hm;have hn:=hu.newsK;refine wpList_append_own (w:=w) hgd s x t ho base e i (.int k 0) 1 bytes ht hi hz hsize hby rfl (by decide) v xs.length (xs.map (Value.int k)) hs hown ⟨b,q,none⟩ ys.length c (ys.map (Value.int k)) hx (by simp) hn (fun u hu=>by obtain⟨x,_,rfl⟩:=List.mem_map.1 hu;rfl) (by unfold maxLen;omega) ?_ hbase ?_
 ·have:(xs.length+ys.length)*bytes≤100000*8:=Nat.mul_le_mul hl hb8;omega
 ·intro v' w' hown' hgrow _;exact h _ w' (RowI.app hown' rfl rfl) ((Below.refl base w).grown hgrow hbase (V1 hown))
end
theorem A0e(xs:List Int)(v:Value)(w:World)(hv:Ints .u8 w v xs)(h0:0<xs.length)(h1:xs.length≤50000):Calls prog 109 #[v] w fun e w'=>∃v,e= .returned v∧RowI w' w.heap.size 5 .u8 v xs∧Below w.heap.size w w':=by
 obtain⟨i0,hi0,hz0,hz1,hz2⟩:=info_parts J2;have HV:=hid hv;obtain⟨b,q,c,rfl,_,hbl,_⟩:=hv.at h0;have HR0:=hid (RowI.lit w #[] [] .u8 5 w.heap.size 0 (Nat.le_refl _) rfl rfl (by unfold maxLen;simp));have HB:=hid ((Below.refl w.heap.size w).alloc (Nat.le_refl _) (.cells #[] 5));clear hv;have hnl:∀w,(binOp .eql 28 (.slice (some ⟨b,q,none⟩) xs.length c) (.slice none 0 0)).run prog w= .ok (.bool false) w:=fun w=>Lib.run_eql_slice_nil w 28 5 (some ⟨b,q,none⟩) xs.length c 0 0 underlying28
 go_enter func109,ntmps109;go_wp2_with(at_builtin;go_must (refine Q7 rfl _ _ 28 rfl w.heap.size 5 i0 1 underlying28 hi0 hz0 hz1 hz2 (by decide) _ [] rfl HR0.out _ xs rfl (HV.out.stays HB.out) h0 ?c1 ?c2 ?_))
 case c1=>simp;omega
 case c2=>simp
 intro v' w' hr hb;have HR:=hid hr;have HB2:=hid (HB.out.trans hb);clear hr hb;go_wp2_with fail
 go_ret;exact⟨_,rfl,HR.out,HB2.out⟩
theorem A3q(o d s z i c:Int)(b:Nat)(w:World)(hc:w.cell? ⟨b,0,none⟩=some (.int .u8 c)):Calls prog 227 #[.agg #[.int .i64 o,.int .i64 d,.int .i64 s,.int .i64 z,.int .i64 i],.pointer (some ⟨b,0,none⟩)] w fun e w'=>∃v,e= .returned v∧RowI w' w.heap.size 5 .u8 v [c,mrB s d]∧Below w.heap.size w w':=by
 have hl:=F9 hc;have hn:¬b=w.heap.size:=by omega
 have C0:=hid (fun w=>S7 s d w);have HB:=hid ((Below.refl w.heap.size w).alloc (Nat.le_refl _) (.cells #[.int .i64 o,.int .i64 d,.int .i64 s,.int .i64 z,.int .i64 i] 89));obtain⟨W0,hW0⟩:∃W,w.alloc (.cells #[.int .i64 o,.int .i64 d,.int .i64 s,.int .i64 z,.int .i64 i] 89)=W:=⟨_,rfl⟩
 have p0:∀wk,Since W0 wk→wk.cell? ⟨b,0,none⟩=some (.int .u8 c):=fun wk h=>h.cell (by rw[←hW0];exact G3 hc)
 have p1:∀wk,Since W0 wk→wk.cell? ⟨w.heap.size,1,none⟩=some (.int .i64 d):=fun wk h=>h.cell (by rw[←hW0];simp[go_sem])
 have p2:∀wk,Since W0 wk→wk.cell? ⟨w.heap.size,2,none⟩=some (.int .i64 s):=fun wk h=>h.cell (by rw[←hW0];simp[go_sem])
 have h00:=Since.refl W0;rw[hW0]at HB;generalize mrB s d=q at*
 clear hc hl hn;go_enter func227,ntmps227;go_wp2_with fail
 clear hW0
 go_region_held3(fun wk=>Since W0 wk) (first|assumption|exact Since.drew (by assumption)|exact Since.next (by assumption) ((Below.refl _ _).alloc (Nat.le_refl _) _)) (first|(go_at_call 183;with_reducible refine(C0.out _).mono ?_;rintro e w' ⟨rfl,rfl⟩))
 go_wp2_with fail
 go_ret;exact⟨_,rfl,RowI.lit W0 #[_,_] [c,q] .u8 5 w.heap.size 2 HB.out.size rfl rfl (by unfold maxLen;simp),E1 (HB.out.trans (((Below.refl _ W0).alloc (Nat.le_refl _) _).mono HB.out.size)) 1⟩
end Go.Proofs.YtajljbmeaeeknaaGreat
namespace Go.Proofs.YtajljbmeaeeknaaGreat
open Go.RowKit
set_option linter.unusedVariables false
set_option linter.unusedSimpArgs false
theorem B3w{p:Prop}(h:p:=by
 go_wp2_with fail
 clear hW0
 go_region_held3(fun wk=>Since W0 wk) (first|assumption|exact Since.drew (by assumption)|exact Since.next (by assumption) ((Below.refl _ _).alloc (Nat.le_refl _) _)) (first|(go_at_call 183;with_reducible refine(C0.out _).mono ?_;rintro e w' ⟨rfl,rfl⟩))
 go_wp2_with fail
 go_ret;exact⟨_,rfl,RowI.to (RowI.lit W0 #[_,_,_] [_,_,_] .u8 5 w.heap.size 3 HB.out.size rfl rfl (by unfold maxLen;simp)) (by first|rfl|((try simp only[List.cons.injEq,and_true,true_and,IntKind.wrap_u8,IntKind.wrap_i64]);omega)),E1 (HB.out.trans (((Below.refl _ W0).alloc (Nat.le_refl _) _).mono HB.out.size)) 1⟩
 ):p:=h
theorem B3Y{p:Prop}(h:p:=by
 go_wp2_with(go_at_call 183;with_reducible refine(C0.out _).mono ?_;rintro e w' ⟨rfl,rfl⟩)
 go_ret;exact⟨_,rfl,RowI.to (RowI.lit W0 #[_,_,_] [_,_,_] .u8 5 w.heap.size 3 HB.out.size rfl rfl (by unfold maxLen;simp)) (rfl),HB.out.trans (((Below.refl _ W0).alloc (Nat.le_refl _) _).mono HB.out.size)⟩
 ):p:=h
theorem RowI.to{w:World}{base:Nat}{e:TypeId}{k:IntKind}{v:Value}{xs ys:List Int}(h:RowI w base e k v xs)(he:xs=ys):RowI w base e k v ys:=he▸h
theorem m9(o d s z i c n:Int)(b b2:Nat)(w:World)(hc0:w.cell? ⟨b,0,none⟩=some (.int .u8 c))(hc1:w.cell? ⟨b2,0,none⟩=some (.int .i64 n)):Calls prog 239 #[.agg #[.int .i64 o,.int .i64 d,.int .i64 s,.int .i64 z,.int .i64 i],.pointer (some ⟨b,0,none⟩),.pointer (some ⟨b2,0,none⟩)] w fun e w'=>∃v,e= .returned v∧RowI w' w.heap.size 5 .u8 v [c,mrB n d]∧Below w.heap.size w w':=by
 have hl0:=F9 hc0;have hn0:¬b=w.heap.size:=by omega
 have hl1:=F9 hc1;have hn1:¬b2=w.heap.size:=by omega
 have HB:=hid ((Below.refl w.heap.size w).alloc (Nat.le_refl _) (.cells #[.int .i64 o,.int .i64 d,.int .i64 s,.int .i64 z,.int .i64 i] 89));obtain⟨W0,hW0⟩:∃W,w.alloc (.cells #[.int .i64 o,.int .i64 d,.int .i64 s,.int .i64 z,.int .i64 i] 89)=W:=⟨_,rfl⟩
 have p0:∀wk,Since W0 wk→wk.cell? ⟨b,0,none⟩=some (.int .u8 c):=fun wk h=>h.cell (by rw[←hW0];exact G3 hc0)
 have p1:∀wk,Since W0 wk→wk.cell? ⟨b2,0,none⟩=some (.int .i64 n):=fun wk h=>h.cell (by rw[←hW0];exact G3 hc1)
 have q1:∀wk,Since W0 wk→wk.cell? ⟨w.heap.size,1,none⟩=some (.int .i64 d):=fun wk h=>h.cell (by rw[←hW0];simp[go_sem])
 have h00:=Since.refl W0;rw[hW0]at HB;have C0:=hid (fun w=>S7 n d w);generalize mrB n d=q at*
 clear hc0 hl0 hn0;clear hc1 hl1 hn1;go_enter func239,ntmps239;go_wp2_with fail
 clear hW0
 go_region_held3(fun wk=>Since W0 wk) (first|assumption|exact Since.drew (by assumption)|exact Since.next (by assumption) ((Below.refl _ _).alloc (Nat.le_refl _) _)) (first|(go_at_call 183;with_reducible refine(C0.out _).mono ?_;rintro e w' ⟨rfl,rfl⟩))
 go_wp2_with fail
 go_ret;exact⟨_,rfl,RowI.to (RowI.lit W0 #[_,_] [_,_] .u8 5 w.heap.size 2 HB.out.size rfl rfl (by unfold maxLen;simp)) (rfl),E1 (HB.out.trans (((Below.refl _ W0).alloc (Nat.le_refl _) _).mono HB.out.size)) 1⟩
theorem wr_mul(o d s z i:Int)(w:World):Calls prog 182 #[.agg #[.int .i64 o,.int .i64 d,.int .i64 s,.int .i64 z,.int .i64 i]] w fun e w'=>∃v,e= .returned v∧RowI w' w.heap.size 5 .u8 v [15,175,mrB d s]∧Below w.heap.size w w':=by
 have HB:=hid ((Below.refl w.heap.size w).alloc (Nat.le_refl _) (.cells #[.int .i64 o,.int .i64 d,.int .i64 s,.int .i64 z,.int .i64 i] 89));obtain⟨W0,hW0⟩:∃W,w.alloc (.cells #[.int .i64 o,.int .i64 d,.int .i64 s,.int .i64 z,.int .i64 i] 89)=W:=⟨_,rfl⟩
 have q1:∀wk,Since W0 wk→wk.cell? ⟨w.heap.size,1,none⟩=some (.int .i64 d):=fun wk h=>h.cell (by rw[←hW0];simp[go_sem])
 have q2:∀wk,Since W0 wk→wk.cell? ⟨w.heap.size,2,none⟩=some (.int .i64 s):=fun wk h=>h.cell (by rw[←hW0];simp[go_sem])
 have h00:=Since.refl W0;rw[hW0]at HB;have C0:=hid (fun w=>S7 d s w);generalize mrB d s=q at*
 go_enter func182,ntmps182;exact B3Y
theorem A7n(o d s z i:Int)(w:World):Calls prog 190 #[.agg #[.int .i64 o,.int .i64 d,.int .i64 s,.int .i64 z,.int .i64 i]] w fun e w'=>∃v,e= .returned v∧RowI w' w.heap.size 5 .u8 v [15,182,mrB d s]∧Below w.heap.size w w':=by
 have HB:=hid ((Below.refl w.heap.size w).alloc (Nat.le_refl _) (.cells #[.int .i64 o,.int .i64 d,.int .i64 s,.int .i64 z,.int .i64 i] 89));obtain⟨W0,hW0⟩:∃W,w.alloc (.cells #[.int .i64 o,.int .i64 d,.int .i64 s,.int .i64 z,.int .i64 i] 89)=W:=⟨_,rfl⟩
 have q1:∀wk,Since W0 wk→wk.cell? ⟨w.heap.size,1,none⟩=some (.int .i64 d):=fun wk h=>h.cell (by rw[←hW0];simp[go_sem])
 have q2:∀wk,Since W0 wk→wk.cell? ⟨w.heap.size,2,none⟩=some (.int .i64 s):=fun wk h=>h.cell (by rw[←hW0];simp[go_sem])
 have h00:=Since.refl W0;rw[hW0]at HB;have C0:=hid (fun w=>S7 d s w);generalize mrB d s=q at*
 go_enter func190,ntmps190;exact B3Y
theorem B0f(o d s z i:Int)(w:World)(h1:0≤s)(h2:s≤15):Calls prog 188 #[.agg #[.int .i64 o,.int .i64 d,.int .i64 s,.int .i64 z,.int .i64 i]] w fun e w'=>∃v,e= .returned v∧RowI w' w.heap.size 5 .u8 v [15,(144+s)%256,mrB 0 d]∧Below w.heap.size w w':=by
 have HB:=hid ((Below.refl w.heap.size w).alloc (Nat.le_refl _) (.cells #[.int .i64 o,.int .i64 d,.int .i64 s,.int .i64 z,.int .i64 i] 89));obtain⟨W0,hW0⟩:∃W,w.alloc (.cells #[.int .i64 o,.int .i64 d,.int .i64 s,.int .i64 z,.int .i64 i] 89)=W:=⟨_,rfl⟩
 have q1:∀wk,Since W0 wk→wk.cell? ⟨w.heap.size,1,none⟩=some (.int .i64 d):=fun wk h=>h.cell (by rw[←hW0];simp[go_sem])
 have q2:∀wk,Since W0 wk→wk.cell? ⟨w.heap.size,2,none⟩=some (.int .i64 s):=fun wk h=>h.cell (by rw[←hW0];simp[go_sem])
 have h00:=Since.refl W0;rw[hW0]at HB;have C0:=hid (fun w=>S7 0 d w);generalize mrB 0 d=q at*
 go_enter func188,ntmps188;exact B3w
theorem A7s(o d s z i:Int)(w:World)(h1:0≤i)(h2:i≤15):Calls prog 192 #[.agg #[.int .i64 o,.int .i64 d,.int .i64 s,.int .i64 z,.int .i64 i]] w fun e w'=>∃v,e= .returned v∧RowI w' w.heap.size 5 .u8 v [15,(64+i)%256,mrB d s]∧Below w.heap.size w w':=by
 have HB:=hid ((Below.refl w.heap.size w).alloc (Nat.le_refl _) (.cells #[.int .i64 o,.int .i64 d,.int .i64 s,.int .i64 z,.int .i64 i] 89));obtain⟨W0,hW0⟩:∃W,w.alloc (.cells #[.int .i64 o,.int .i64 d,.int .i64 s,.int .i64 z,.int .i64 i] 89)=W:=⟨_,rfl⟩
 have q1:∀wk,Since W0 wk→wk.cell? ⟨w.heap.size,1,none⟩=some (.int .i64 d):=fun wk h=>h.cell (by rw[←hW0];simp[go_sem])
 have q2:∀wk,Since W0 wk→wk.cell? ⟨w.heap.size,2,none⟩=some (.int .i64 s):=fun wk h=>h.cell (by rw[←hW0];simp[go_sem])
 have q4:∀wk,Since W0 wk→wk.cell? ⟨w.heap.size,4,none⟩=some (.int .i64 i):=fun wk h=>h.cell (by rw[←hW0];simp[go_sem])
 have h00:=Since.refl W0;rw[hW0]at HB;have C0:=hid (fun w=>S7 d s w);generalize mrB d s=q at*
 go_enter func192,ntmps192;exact B3w
theorem A7q(o d s z i:Int)(w:World)(h1:0≤s)(h2:s≤15):Calls prog 194 #[.agg #[.int .i64 o,.int .i64 d,.int .i64 s,.int .i64 z,.int .i64 i]] w fun e w'=>∃v,e= .returned v∧RowI w' w.heap.size 5 .u8 v [(112+s)%256]∧Below w.heap.size w w':=by
 have HB:=hid ((Below.refl w.heap.size w).alloc (Nat.le_refl _) (.cells #[.int .i64 o,.int .i64 d,.int .i64 s,.int .i64 z,.int .i64 i] 89));obtain⟨W0,hW0⟩:∃W,w.alloc (.cells #[.int .i64 o,.int .i64 d,.int .i64 s,.int .i64 z,.int .i64 i] 89)=W:=⟨_,rfl⟩
 have q2:∀wk,Since W0 wk→wk.cell? ⟨w.heap.size,2,none⟩=some (.int .i64 s):=fun wk h=>h.cell (by rw[←hW0];simp[go_sem])
 have h00:=Since.refl W0;rw[hW0]at HB;go_enter func194,ntmps194;go_wp2_with fail
 go_ret;exact⟨_,rfl,RowI.to (RowI.lit W0 #[_] [_] .u8 5 w.heap.size 1 HB.out.size rfl rfl (by unfold maxLen;simp)) (by first|rfl|((try simp only[List.cons.injEq,and_true,true_and,IntKind.wrap_u8,IntKind.wrap_i64]);omega)),HB.out.trans (((Below.refl _ W0).alloc (Nat.le_refl _) _).mono HB.out.size)⟩
theorem A7r(o d s z i:Int)(w:World)(h1:0≤s)(h2:s≤15):Calls prog 195 #[.agg #[.int .i64 o,.int .i64 d,.int .i64 s,.int .i64 z,.int .i64 i]] w fun e w'=>∃v,e= .returned v∧RowI w' w.heap.size 5 .u8 v [15,(128+s)%256]∧Below w.heap.size w w':=by
 have HB:=hid ((Below.refl w.heap.size w).alloc (Nat.le_refl _) (.cells #[.int .i64 o,.int .i64 d,.int .i64 s,.int .i64 z,.int .i64 i] 89));obtain⟨W0,hW0⟩:∃W,w.alloc (.cells #[.int .i64 o,.int .i64 d,.int .i64 s,.int .i64 z,.int .i64 i] 89)=W:=⟨_,rfl⟩
 have q2:∀wk,Since W0 wk→wk.cell? ⟨w.heap.size,2,none⟩=some (.int .i64 s):=fun wk h=>h.cell (by rw[←hW0];simp[go_sem])
 have h00:=Since.refl W0;rw[hW0]at HB;go_enter func195,ntmps195;go_wp2_with fail
 go_ret;exact⟨_,rfl,RowI.to (RowI.lit W0 #[_,_] [_,_] .u8 5 w.heap.size 2 HB.out.size rfl rfl (by unfold maxLen;simp)) (by first|rfl|((try simp only[List.cons.injEq,and_true,true_and,IntKind.wrap_u8,IntKind.wrap_i64]);omega)),HB.out.trans (((Below.refl _ W0).alloc (Nat.le_refl _) _).mono HB.out.size)⟩
theorem A7o(o d s z i:Int)(w:World):Calls prog 197 #[.agg #[.int .i64 o,.int .i64 d,.int .i64 s,.int .i64 z,.int .i64 i]] w fun e w'=>∃v,e= .returned v∧RowI w' w.heap.size 5 .u8 v [235]∧Below w.heap.size w w':=by
 have HB:=hid ((Below.refl w.heap.size w).alloc (Nat.le_refl _) (.cells #[.int .i64 o,.int .i64 d,.int .i64 s,.int .i64 z,.int .i64 i] 89));obtain⟨W0,hW0⟩:∃W,w.alloc (.cells #[.int .i64 o,.int .i64 d,.int .i64 s,.int .i64 z,.int .i64 i] 89)=W:=⟨_,rfl⟩
 have q2:∀wk,Since W0 wk→wk.cell? ⟨w.heap.size,2,none⟩=some (.int .i64 s):=fun wk h=>h.cell (by rw[←hW0];simp[go_sem])
 have h00:=Since.refl W0;rw[hW0]at HB;go_enter func197,ntmps197;go_wp2_with fail
 go_ret;exact⟨_,rfl,RowI.to (RowI.lit W0 #[_] [_] .u8 5 w.heap.size 1 HB.out.size rfl rfl (by unfold maxLen;simp)) (rfl),HB.out.trans (((Below.refl _ W0).alloc (Nat.le_refl _) _).mono HB.out.size)⟩
theorem A7p(o d s z i:Int)(w:World):Calls prog 198 #[.agg #[.int .i64 o,.int .i64 d,.int .i64 s,.int .i64 z,.int .i64 i]] w fun e w'=>∃v,e= .returned v∧RowI w' w.heap.size 5 .u8 v [233]∧Below w.heap.size w w':=by
 have HB:=hid ((Below.refl w.heap.size w).alloc (Nat.le_refl _) (.cells #[.int .i64 o,.int .i64 d,.int .i64 s,.int .i64 z,.int .i64 i] 89));obtain⟨W0,hW0⟩:∃W,w.alloc (.cells #[.int .i64 o,.int .i64 d,.int .i64 s,.int .i64 z,.int .i64 i] 89)=W:=⟨_,rfl⟩
 have q2:∀wk,Since W0 wk→wk.cell? ⟨w.heap.size,2,none⟩=some (.int .i64 s):=fun wk h=>h.cell (by rw[←hW0];simp[go_sem])
 have h00:=Since.refl W0;rw[hW0]at HB;go_enter func198,ntmps198;go_wp2_with fail
 go_ret;exact⟨_,rfl,RowI.to (RowI.lit W0 #[_] [_] .u8 5 w.heap.size 1 HB.out.size rfl rfl (by unfold maxLen;simp)) (rfl),HB.out.trans (((Below.refl _ W0).alloc (Nat.le_refl _) _).mono HB.out.size)⟩
theorem q4z{p:Prop}(h:p:=by
 go_enter func175,ntmps175;go_wp2_with fail
 clear hW0
 go_region_held3(fun wk=>Since W0 wk) (first|assumption|exact Since.drew (by assumption)|exact Since.next (by assumption) ((Below.refl _ _).alloc (Nat.le_refl _) _)) (first|((go_at_call 163;with_reducible refine(C1.out _ (by first|assumption|exact Since.drew (by assumption)|exact Since.next (by assumption) ((Below.refl _ _).alloc (Nat.le_refl _) _))).mono ?_);rintro e w2 ⟨v2,rfl,hr2,hb2,hs2⟩;have HR2:=hid hr2;clear hr2)|((refine D3 (by rfl) _ _ _ (by rfl) W0.heap.size 5 i0 1 underlying28 hi0 hz0 hz1 hz2 (by decide) _ [IntKind.u8.wrap (IntKind.i64.wrap (184+d))] (by rfl) (RowI.below (RowI.lit _ #[.int .u8 (IntKind.u8.wrap (IntKind.i64.wrap (184+d)))] [(IntKind.u8.wrap (IntKind.i64.wrap (184+d)))] .u8 5 W0.heap.size 1 (by first|exact Nat.le_refl _|exact(show Since W0 _ by assumption).size) rfl rfl (by unfold maxLen;simp)) hb2) _ ys (by rfl) (HR2.out.ints HY5.out) HPOS.out HLEN.out hs2.size ?_);intro v9 w9 hr9 hb9;have hs9:=E2 (by assumption) hb9;have HR9:=hid hr9;clear hr9)|((refine D3 (by rfl) _ _ _ (by rfl) W0.heap.size 5 i0 1 underlying28 hi0 hz0 hz1 hz2 (by decide) _ [IntKind.u8.wrap (IntKind.i64.wrap (184+d))] (by rfl) (RowI.below (RowI.litd _ #[.int .u8 (IntKind.u8.wrap (IntKind.i64.wrap (184+d)))] [(IntKind.u8.wrap (IntKind.i64.wrap (184+d)))] .u8 5 W0.heap.size 1 (by first|exact Nat.le_refl _|exact(show Since W0 _ by assumption).size) rfl rfl (by unfold maxLen;simp)) hb2) _ ys (by rfl) (HR2.out.ints HY5.out) HPOS.out HLEN.out hs2.size ?_);intro v9 w9 hr9 hb9;have hs9:=E2 (by assumption) hb9;have HR9:=hid hr9;clear hr9)|((refine D3 (by rfl) _ _ _ (by rfl) W0.heap.size 5 i0 1 underlying28 hi0 hz0 hz1 hz2 (by decide) _ [IntKind.u8.wrap (IntKind.i64.wrap (184+d))] (by rfl) (RowI.lit _ #[.int .u8 (IntKind.u8.wrap (IntKind.i64.wrap (184+d)))] [(IntKind.u8.wrap (IntKind.i64.wrap (184+d)))] .u8 5 W0.heap.size 1 (by first|exact Nat.le_refl _|exact(show Since W0 _ by assumption).size) rfl rfl (by unfold maxLen;simp)) _ ys (by rfl) ((HR2.out.below ((Below.refl _ _).alloc (Nat.le_refl _) _)).ints HY5.out) HPOS.out HLEN.out (Nat.le_trans hs2.size (by simp)) ?_);intro v9 w9 hr9 hb9;have hs9:=E2 (by assumption) hb9;have HR9:=hid hr9;clear hr9)|((refine D3 (by rfl) _ _ _ (by rfl) W0.heap.size 5 i0 1 underlying28 hi0 hz0 hz1 hz2 (by decide) _ [IntKind.u8.wrap (IntKind.i64.wrap (184+d))] (by rfl) (RowI.litd _ #[.int .u8 (IntKind.u8.wrap (IntKind.i64.wrap (184+d)))] [(IntKind.u8.wrap (IntKind.i64.wrap (184+d)))] .u8 5 W0.heap.size 1 (by first|exact Nat.le_refl _|exact(show Since W0 _ by assumption).size) rfl rfl (by unfold maxLen;simp)) _ ys (by rfl) ((HR2.out.below (E1 ((Below.refl _ _).alloc (Nat.le_refl _) _) 1)).ints HY5.out) HPOS.out HLEN.out (Nat.le_trans hs2.size (by simp)) ?_);intro v9 w9 hr9 hb9;have hs9:=E2 (by assumption) hb9;have HR9:=hid hr9;clear hr9))
 all_goals go_wp2_with fail
 all_goals go_ret
 all_goals exact⟨_,rfl,RowI.to (RowI.mono HR9.out HB.out.size) (by rw[EQ0.out];rfl),A7 HB.out (by first|exact hs9|exact E1 hs9 1)⟩
 ):p:=h
theorem RowI.litd(w:World)(cs:Array Value)(xs:List Int)(k:IntKind)(e:TypeId)(base n:Nat)(hb:base≤w.heap.size)(hc:cs.toList=xs.map (Value.int k))(hn:n=xs.length)(hm:xs.length≤maxLen):
  RowI (w.alloc (.cells cs e)).drew base e k (.slice (some ⟨w.heap.size,0,none⟩) n n) xs:=RowI.lit w cs xs k e base n hb hc hn hm
theorem E2{w0 w w':World}(h:Since w0 w)(h':Below w0.heap.size w w'):Since w0 w':=h.trans h'
theorem A0h(o d s z i:Int)(vop:Value)(ops:List Int)(b:Nat)(w:World)(hc0:w.cell? ⟨b,0,none⟩=some (vop))(hv:Ints .u8 w vop ops)(ho:0<ops.length)(ho2:ops.length≤50000)(hi:I64 i):Calls prog 231 #[.agg #[.int .i64 o,.int .i64 d,.int .i64 s,.int .i64 z,.int .i64 i],.pointer (some ⟨b,0,none⟩)] w fun e w'=>∃v,e= .returned v∧RowI w' w.heap.size 5 .u8 v (ops++mmB d s i)∧Below w.heap.size w w':=by
 have HV:=hid hv;obtain⟨va,vc,rfl,_⟩:=hv.shape;have hl0:=F9 hc0;have hn0:¬b=w.heap.size:=by omega
 have HB:=hid ((Below.refl w.heap.size w).alloc (Nat.le_refl _) (.cells #[.int .i64 o,.int .i64 d,.int .i64 s,.int .i64 z,.int .i64 i] 89));obtain⟨W0,hW0⟩:∃W,w.alloc (.cells #[.int .i64 o,.int .i64 d,.int .i64 s,.int .i64 z,.int .i64 i] 89)=W:=⟨_,rfl⟩
 have p0:∀wk,Since W0 wk→wk.cell? ⟨b,0,none⟩=some (.slice va ops.length vc):=fun wk h=>h.cell (by rw[←hW0];exact G3 hc0)
 have q1:∀wk,Since W0 wk→wk.cell? ⟨w.heap.size,1,none⟩=some (.int .i64 d):=fun wk h=>h.cell (by rw[←hW0];simp[go_sem])
 have q2:∀wk,Since W0 wk→wk.cell? ⟨w.heap.size,2,none⟩=some (.int .i64 s):=fun wk h=>h.cell (by rw[←hW0];simp[go_sem])
 have q4:∀wk,Since W0 wk→wk.cell? ⟨w.heap.size,4,none⟩=some (.int .i64 i):=fun wk h=>h.cell (by rw[←hW0];simp[go_sem])
 have h00:=Since.refl W0;rw[hW0]at HB;obtain⟨i0,hi0,hz0,hz1,hz2⟩:=info_parts J2;have C0:Hid (∀wk,Since W0 wk→Calls prog 109 #[.slice va ops.length vc] wk fun e w'=>∃v,e= .returned v∧RowI w' W0.heap.size 5 .u8 v (ops)∧Below wk.heap.size wk w'∧Since W0 w'):=fun wk h=>R8 (A0e ops _ wk ((HV.out.stays (by rw[←hW0];exact(Below.refl _ _).alloc (Nat.le_refl _) _)).stays h) ho ho2) h
 have C1:Hid (∀wk,Since W0 wk→Calls prog 232 #[.int .i64 d,.int .i64 s,.int .i64 i] wk fun e w'=>∃v,e= .returned v∧RowI w' W0.heap.size 5 .u8 v (mmB d s i)∧Below wk.heap.size wk w'∧Since W0 w'):=fun wk h=>R8 (A6Y d s i wk hi) h
 have hml:(mmB d s i).length=5:=by simp[mmB,A8]
 generalize mmB d s i=ys at*
 have HLEN:Hid (ops.length+ys.length≤100000):=by show _≤_;omega
 have HPOS:Hid (0<ys.length):=by show 0<_;omega
 have HY5:Hid (ys.length≤140737488351232):=by show _≤_;omega
 clear ho ho2 hi hml;clear hc0 hl0 hn0;go_enter func231,ntmps231;go_wp2_with fail
 clear hW0
 go_region_held3(fun wk=>Since W0 wk) (first|assumption|exact Since.drew (by assumption)|exact Since.next (by assumption) ((Below.refl _ _).alloc (Nat.le_refl _) _)) (first|((go_at_call 109;with_reducible refine(C0.out _ (by first|assumption|exact Since.drew (by assumption)|exact Since.next (by assumption) ((Below.refl _ _).alloc (Nat.le_refl _) _))).mono ?_);rintro e w1 ⟨v1,rfl,hr1,hb1,hs1⟩;have HR1:=hid hr1;clear hr1)|((go_at_call 232;with_reducible refine(C1.out _ (by first|assumption|exact Since.drew (by assumption)|exact Since.next (by assumption) ((Below.refl _ _).alloc (Nat.le_refl _) _))).mono ?_);rintro e w2 ⟨v2,rfl,hr2,hb2,hs2⟩;have HR2:=hid hr2;clear hr2)|((refine D3 (by rfl) _ _ _ (by rfl) W0.heap.size 5 i0 1 underlying28 hi0 hz0 hz1 hz2 (by decide) _ ops (by rfl) (HR1.out.below hb2) _ ys (by rfl) (HR2.out.ints HY5.out) HPOS.out HLEN.out hs2.size ?_);intro v9 w9 hr9 hb9;have hs9:=E2 (by assumption) hb9;have HR9:=hid hr9;clear hr9))
 go_wp2_with fail
 go_ret;exact⟨_,rfl,RowI.to (RowI.mono HR9.out HB.out.size) (rfl),A7 HB.out (by first|exact hs9|exact E1 hs9 1)⟩
theorem A1V(o d s z i c:Int)(b:Nat)(w:World)(hc0:w.cell? ⟨b,0,none⟩=some (.int .u8 c))(hi:I64 i):Calls prog 234 #[.agg #[.int .i64 o,.int .i64 d,.int .i64 s,.int .i64 z,.int .i64 i],.pointer (some ⟨b,0,none⟩)] w fun e w'=>∃v,e= .returned v∧RowI w' w.heap.size 5 .u8 v (c::mmB s d i)∧Below w.heap.size w w':=by
 have hl0:=F9 hc0;have hn0:¬b=w.heap.size:=by omega
 have HB:=hid ((Below.refl w.heap.size w).alloc (Nat.le_refl _) (.cells #[.int .i64 o,.int .i64 d,.int .i64 s,.int .i64 z,.int .i64 i] 89));obtain⟨W0,hW0⟩:∃W,w.alloc (.cells #[.int .i64 o,.int .i64 d,.int .i64 s,.int .i64 z,.int .i64 i] 89)=W:=⟨_,rfl⟩
 have p0:∀wk,Since W0 wk→wk.cell? ⟨b,0,none⟩=some (.int .u8 c):=fun wk h=>h.cell (by rw[←hW0];exact G3 hc0)
 have q1:∀wk,Since W0 wk→wk.cell? ⟨w.heap.size,1,none⟩=some (.int .i64 d):=fun wk h=>h.cell (by rw[←hW0];simp[go_sem])
 have q2:∀wk,Since W0 wk→wk.cell? ⟨w.heap.size,2,none⟩=some (.int .i64 s):=fun wk h=>h.cell (by rw[←hW0];simp[go_sem])
 have q4:∀wk,Since W0 wk→wk.cell? ⟨w.heap.size,4,none⟩=some (.int .i64 i):=fun wk h=>h.cell (by rw[←hW0];simp[go_sem])
 have h00:=Since.refl W0;rw[hW0]at HB;obtain⟨i0,hi0,hz0,hz1,hz2⟩:=info_parts J2;have C1:Hid (∀wk,Since W0 wk→Calls prog 232 #[.int .i64 s,.int .i64 d,.int .i64 i] wk fun e w'=>∃v,e= .returned v∧RowI w' W0.heap.size 5 .u8 v (mmB s d i)∧Below wk.heap.size wk w'∧Since W0 w'):=fun wk h=>R8 (A6Y s d i wk hi) h
 have hml:(mmB s d i).length=5:=by simp[mmB,A8]
 generalize mmB s d i=ys at*
 have HLEN:Hid (([c]).length+ys.length≤100000):=by show _≤_;simp;omega
 have HPOS:Hid (0<ys.length):=by show 0<_;omega
 have HY5:Hid (ys.length≤140737488351232):=by show _≤_;omega
 clear hml;clear hi;clear hc0 hl0 hn0;go_enter func234,ntmps234;go_wp2_with fail
 clear hW0
 go_region_held3(fun wk=>Since W0 wk) (first|assumption|exact Since.drew (by assumption)|exact Since.next (by assumption) ((Below.refl _ _).alloc (Nat.le_refl _) _)) (first|((go_at_call 232;with_reducible refine(C1.out _ (by first|assumption|exact Since.drew (by assumption)|exact Since.next (by assumption) ((Below.refl _ _).alloc (Nat.le_refl _) _))).mono ?_);rintro e w2 ⟨v2,rfl,hr2,hb2,hs2⟩;have HR2:=hid hr2;clear hr2)|((refine D3 (by rfl) _ _ _ (by rfl) W0.heap.size 5 i0 1 underlying28 hi0 hz0 hz1 hz2 (by decide) _ [c] (by rfl) (RowI.below (RowI.lit _ #[.int .u8 c] [c] .u8 5 W0.heap.size 1 (by first|exact Nat.le_refl _|exact(show Since W0 _ by assumption).size) rfl rfl (by unfold maxLen;simp)) hb2) _ ys (by rfl) (HR2.out.ints HY5.out) HPOS.out HLEN.out hs2.size ?_);intro v9 w9 hr9 hb9;have hs9:=E2 (by assumption) hb9;have HR9:=hid hr9;clear hr9)|((refine D3 (by rfl) _ _ _ (by rfl) W0.heap.size 5 i0 1 underlying28 hi0 hz0 hz1 hz2 (by decide) _ [c] (by rfl) (RowI.below (RowI.litd _ #[.int .u8 c] [c] .u8 5 W0.heap.size 1 (by first|exact Nat.le_refl _|exact(show Since W0 _ by assumption).size) rfl rfl (by unfold maxLen;simp)) hb2) _ ys (by rfl) (HR2.out.ints HY5.out) HPOS.out HLEN.out hs2.size ?_);intro v9 w9 hr9 hb9;have hs9:=E2 (by assumption) hb9;have HR9:=hid hr9;clear hr9)|((refine D3 (by rfl) _ _ _ (by rfl) W0.heap.size 5 i0 1 underlying28 hi0 hz0 hz1 hz2 (by decide) _ [c] (by rfl) (RowI.lit _ #[.int .u8 c] [c] .u8 5 W0.heap.size 1 (by first|exact Nat.le_refl _|exact(show Since W0 _ by assumption).size) rfl rfl (by unfold maxLen;simp)) _ ys (by rfl) ((HR2.out.below ((Below.refl _ _).alloc (Nat.le_refl _) _)).ints HY5.out) HPOS.out HLEN.out (Nat.le_trans hs2.size (by simp)) ?_);intro v9 w9 hr9 hb9;have hs9:=E2 (by assumption) hb9;have HR9:=hid hr9;clear hr9)|((refine D3 (by rfl) _ _ _ (by rfl) W0.heap.size 5 i0 1 underlying28 hi0 hz0 hz1 hz2 (by decide) _ [c] (by rfl) (RowI.litd _ #[.int .u8 c] [c] .u8 5 W0.heap.size 1 (by first|exact Nat.le_refl _|exact(show Since W0 _ by assumption).size) rfl rfl (by unfold maxLen;simp)) _ ys (by rfl) ((HR2.out.below (E1 ((Below.refl _ _).alloc (Nat.le_refl _) _) 1)).ints HY5.out) HPOS.out HLEN.out (Nat.le_trans hs2.size (by simp)) ?_);intro v9 w9 hr9 hb9;have hs9:=E2 (by assumption) hb9;have HR9:=hid hr9;clear hr9))
 all_goals go_wp2_with fail
 all_goals go_ret
 all_goals exact⟨_,rfl,RowI.to (RowI.mono HR9.out HB.out.size) rfl,A7 HB.out (by first|exact hs9|exact E1 hs9 1)⟩
theorem A2s(o d s i:Int)(w:World)(hi:I64 i):Calls prog 175 #[.agg #[.int .i64 o,.int .i64 d,.int .i64 s,.int .i64 32,.int .i64 i]] w fun e w'=>∃v,e= .returned v∧RowI w' w.heap.size 5 .u8 v ((184+d)%256::leB i 4)∧Below w.heap.size w w':=by
 have HB:=hid ((Below.refl w.heap.size w).alloc (Nat.le_refl _) (.cells #[.int .i64 o,.int .i64 d,.int .i64 s,.int .i64 32,.int .i64 i] 89));obtain⟨W0,hW0⟩:∃W,w.alloc (.cells #[.int .i64 o,.int .i64 d,.int .i64 s,.int .i64 32,.int .i64 i] 89)=W:=⟨_,rfl⟩
 have q1:∀wk,Since W0 wk→wk.cell? ⟨w.heap.size,1,none⟩=some (.int .i64 d):=fun wk h=>h.cell (by rw[←hW0];simp[go_sem])
 have q4:∀wk,Since W0 wk→wk.cell? ⟨w.heap.size,4,none⟩=some (.int .i64 i):=fun wk h=>h.cell (by rw[←hW0];simp[go_sem])
 have q3:∀wk,Since W0 wk→wk.cell? ⟨w.heap.size,3,none⟩=some (.int .i64 32):=fun wk h=>h.cell (by rw[←hW0];simp[go_sem])
 have h00:=Since.refl W0;rw[hW0]at HB;obtain⟨i0,hi0,hz0,hz1,hz2⟩:=info_parts J2;have C1:Hid (∀wk,Since W0 wk→Calls prog 163 #[.int .i64 i,.int .i64 (IntKind.i64.wrap 4)] wk fun e w'=>∃v,e= .returned v∧RowI w' W0.heap.size 5 .u8 v (leB i 4)∧Below wk.heap.size wk w'∧Since W0 w'):=fun wk h=>R8 (I8 i 4 wk hi (by decide)) h
 have eq0:IntKind.u8.wrap (IntKind.i64.wrap (184+d))=(184+d)%256:=by rw[IntKind.wrap_u8,IntKind.wrap_i64];omega
 have EQ0:=hid eq0;clear eq0;have hml:(leB i 4).length=4:=by simp[mmB,A8]
 generalize leB i 4=ys at*
 have HLEN:Hid (([(0:Int)]).length+ys.length≤100000):=by show _≤_;simp;omega
 have HPOS:Hid (0<ys.length):=by show 0<_;omega
 have HY5:Hid (ys.length≤140737488351232):=by show _≤_;omega
 clear hml;clear hi;exact q4z
theorem A2t(o d s i:Int)(w:World)(hi:I64 i):Calls prog 175 #[.agg #[.int .i64 o,.int .i64 d,.int .i64 s,.int .i64 16,.int .i64 i]] w fun e w'=>∃v,e= .returned v∧RowI w' w.heap.size 5 .u8 v ((184+d)%256::leB i 2)∧Below w.heap.size w w':=by
 have HB:=hid ((Below.refl w.heap.size w).alloc (Nat.le_refl _) (.cells #[.int .i64 o,.int .i64 d,.int .i64 s,.int .i64 16,.int .i64 i] 89));obtain⟨W0,hW0⟩:∃W,w.alloc (.cells #[.int .i64 o,.int .i64 d,.int .i64 s,.int .i64 16,.int .i64 i] 89)=W:=⟨_,rfl⟩
 have q1:∀wk,Since W0 wk→wk.cell? ⟨w.heap.size,1,none⟩=some (.int .i64 d):=fun wk h=>h.cell (by rw[←hW0];simp[go_sem])
 have q4:∀wk,Since W0 wk→wk.cell? ⟨w.heap.size,4,none⟩=some (.int .i64 i):=fun wk h=>h.cell (by rw[←hW0];simp[go_sem])
 have q3:∀wk,Since W0 wk→wk.cell? ⟨w.heap.size,3,none⟩=some (.int .i64 16):=fun wk h=>h.cell (by rw[←hW0];simp[go_sem])
 have h00:=Since.refl W0;rw[hW0]at HB;obtain⟨i0,hi0,hz0,hz1,hz2⟩:=info_parts J2;have C1:Hid (∀wk,Since W0 wk→Calls prog 163 #[.int .i64 i,.int .i64 (IntKind.i64.wrap 2)] wk fun e w'=>∃v,e= .returned v∧RowI w' W0.heap.size 5 .u8 v (leB i 2)∧Below wk.heap.size wk w'∧Since W0 w'):=fun wk h=>R8 (I8 i 2 wk hi (by decide)) h
 have eq0:IntKind.u8.wrap (IntKind.i64.wrap (184+d))=(184+d)%256:=by rw[IntKind.wrap_u8,IntKind.wrap_i64];omega
 have EQ0:=hid eq0;clear eq0;have hml:(leB i 2).length=2:=by simp[mmB,A8]
 generalize leB i 2=ys at*
 have HLEN:Hid (([(0:Int)]).length+ys.length≤100000):=by show _≤_;simp;omega
 have HPOS:Hid (0<ys.length):=by show 0<_;omega
 have HY5:Hid (ys.length≤140737488351232):=by show _≤_;omega
 clear hml;clear hi;exact q4z
theorem y5(o d s z i:Int)(vop:Value)(ops:List Int)(b:Nat)(w:World)(hc0:w.cell? ⟨b,0,none⟩=some (vop))(hv:Ints .u8 w vop ops)(ho:0<ops.length)(ho2:ops.length≤50000):Calls prog 241 #[.agg #[.int .i64 o,.int .i64 d,.int .i64 s,.int .i64 z,.int .i64 i],.pointer (some ⟨b,0,none⟩)] w fun e w'=>∃v,e= .returned v∧RowI w' w.heap.size 5 .u8 v ops∧Below w.heap.size w w':=by
 have hl0:=F9 hc0;have hn0:¬b=w.heap.size:=by omega
 have HB:=hid ((Below.refl w.heap.size w).alloc (Nat.le_refl _) (.cells #[.int .i64 o,.int .i64 d,.int .i64 s,.int .i64 z,.int .i64 i] 89));obtain⟨W0,hW0⟩:∃W,w.alloc (.cells #[.int .i64 o,.int .i64 d,.int .i64 s,.int .i64 z,.int .i64 i] 89)=W:=⟨_,rfl⟩
 have p0:∀wk,Since W0 wk→wk.cell? ⟨b,0,none⟩=some (vop):=fun wk h=>h.cell (by rw[←hW0];exact G3 hc0)
 have h00:=Since.refl W0;rw[hW0]at HB;have C0:Hid (∀wk,Since W0 wk→Calls prog 109 #[vop] wk fun e w'=>∃v,e= .returned v∧RowI w' W0.heap.size 5 .u8 v (ops)∧Below wk.heap.size wk w'∧Since W0 w'):=fun wk h=>R8 (A0e ops vop wk ((hv.stays (by rw[←hW0];exact(Below.refl _ _).alloc (Nat.le_refl _) _)).stays h) ho ho2) h
 have c0:=p0 _ h00;clear hv ho ho2;clear hc0 hl0 hn0;go_enter func241,ntmps241;go_wp2_with((go_at_call 109;with_reducible refine(C0.out _ (by first|assumption)).mono ?_);rintro e w1 ⟨v1,rfl,hr1,hb1,hs1⟩;have HR1:=hid hr1;clear hr1)
 go_ret;exact⟨_,rfl,HR1.out.mono HB.out.size,A7 HB.out hs1⟩
end Go.Proofs.YtajljbmeaeeknaaGreat
