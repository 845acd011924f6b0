/- -/
import Derived.BigQuiet
import Derived.Deep.RegionHeld3
import Derived.Test.YtajljbmeaeeknaaGreatS17
import Derived.Test.YtajljbmeaeeknaaGreatS18
open Go.Proofs.Tryz
open Go.Lib (hid)
set_option maxRecDepth 100000
namespace Go.Proofs.YtajljbmeaeeknaaGreat
open Go.RowKit Go.Maps
set_option linter.unusedVariables false
set_option linter.unusedSimpArgs false
theorem A3E{p:Prop}(h:p:=by
 go_enter func10,ntmps10;go_upto_region 60 with(first|(go_at_call 38;(with_reducible refine(C0.out _).mono ?_);rintro e w' ⟨rfl,rfl⟩)|(go_at_call 39;(with_reducible refine C1.out.mono ?_);rintro e w2 ⟨rfl,hb2⟩;have p0b:=A7 hb2 hs P0.out;have HB2:=hid hb2;clear hb2))
 go_ret;exact⟨rfl,A8 BB.out HB2.out⟩
 ):p:=h
theorem A8q{p:Prop}(h:p:=by
 rw[show(decide (0≤set)&&decide (set≤1))=false by simp;omega]at C0;go_enter func10,ntmps10;go_upto_region 60 with(first|(go_at_call 38;(with_reducible refine(C0.out _).mono ?_);rintro e w' ⟨rfl,rfl⟩)|(go_at_call 39;(with_reducible refine C1.out.mono ?_);rintro e w2 ⟨rfl,hb2⟩;have p0b:=A7 hb2 hs P0.out;have HB2:=hid hb2;clear hb2))
 go_ret;exact⟨rfl,BB.out⟩
 ):p:=h
theorem A8n{p:Prop}(h:p:=by
 go_enter func71,ntmps71;go_upto_region 60 with(go_at_call 98;(with_reducible refine C1.out.mono ?_);rintro e w2 ⟨rfl,hb2⟩;have p0b:=A7 hb2 hs P0.out;have HB2:=hid hb2;clear hb2 p0 p1)
 refine bodyPost_ret (v:=.tuple #[.nilIface,.int .i64 q]) (by simp[results,results71,go_sem]) rfl ?_;exact⟨.inl ⟨HNN.out,rfl⟩,A8 BB.out HB2.out⟩
 ):p:=h
theorem i8 (n : Nat) (w : World) : Sem.run prog (Go.method (n + 1) 188 (.agg #[]) ("backstay".push (Char.ofNat 47) ++ "place.registers")) w = .ok (270, .agg #[]) w := by kernel_rfl
theorem i7 (n : Nat) (w : World) : Sem.run prog (Go.method (n + 1) 189 (.agg #[]) ("backstay".push (Char.ofNat 47) ++ "place.registers")) w = .ok (280, .agg #[]) w := by kernel_rfl
theorem A1k(w:World):Calls prog 270 #[.agg #[]] w fun e w'=>e= .returned (.int .i64 10)∧Below w.heap.size w w':=by
 have HB:=hid ((Below.refl w.heap.size w).alloc (Nat.le_refl _) (.cells #[] 188));go_enter func270,ntmps270;go_wp2_with fail
 go_ret;exact⟨rfl,HB.out⟩
theorem A0d(w:World):Calls prog 280 #[.agg #[]] w fun e w'=>e= .returned (.int .i64 4)∧Below w.heap.size w w':=by
 have HB:=hid ((Below.refl w.heap.size w).alloc (Nat.le_refl _) (.cells #[] 189));go_enter func280,ntmps280;go_wp2_with fail
 go_ret;exact⟨rfl,HB.out⟩
def F3(set regs:Int)(bs:List (List Cd)):Int:=if set<0∨1<set then 1 else if K9 regs bs=0 then(if(if set=0 then 10 else 4)<regs then 3 else 0)else K9 regs bs
theorem A3y(n lo hi:Int)(w:World):Calls prog 38 #[.int .i64 n,.int .i64 lo,.int .i64 hi] w fun e w'=>e= .returned (.bool (decide (lo≤n)&&decide (n≤hi)))∧w=w':=by
 cases h1:decide (lo≤n)<;>cases h2:decide (n≤hi)<;>(
  go_enter func38,ntmps38;go_wp2_with fail
  go_ret;exact⟨rfl,rfl⟩)
theorem Y6(set regs:Int)(bs:List (List Cd)):(set<0∧F3 set regs bs=1)∨(1<set∧F3 set regs bs=1)∨(set=0∧K9 regs bs≠0∧F3 set regs bs=K9 regs bs)∨(set=1∧K9 regs bs≠0∧F3 set regs bs=K9 regs bs)
  ∨(set=0∧K9 regs bs=0∧10<regs∧F3 set regs bs=3)∨(set=1∧K9 regs bs=0∧4<regs∧F3 set regs bs=3)∨(set=0∧K9 regs bs=0∧¬10<regs∧F3 set regs bs=0)∨(set=1∧K9 regs bs=0∧¬4<regs∧F3 set regs bs=0):=by
 unfold F3;by_cases h:set<0∨1<set
 ·rw[if_pos h];omega
 rw[if_neg h];have h2:set=0∨set=1:=by omega
 by_cases hv:K9 regs bs=0
 ·rw[if_pos hv];rcases h2 with rfl|rfl
  ·rw[if_pos rfl];by_cases hr:10<regs
   ·rw[if_pos hr];omega
   ·rw[if_neg hr];omega
  ·rw[if_neg (show¬((1:Int)=0)by decide)];by_cases hr:4<regs
   ·rw[if_pos hr];omega
   ·rw[if_neg hr];omega
 ·rw[if_neg hv];omega
theorem A6j(set regs:Int)(bs:List (List Cd))(v:Value)(w:World)(hv:Bls w v bs)(h0:toC bs≤500)(h1:bs.length≤500):Calls prog 10 #[.int .i64 set,.agg #[.int .i64 regs,v]] w fun e w'=>e= .returned (.int .i64 (F3 set regs bs))∧Below w.heap.size w w':=by
 have HV:=hid hv;obtain⟨va,vc,rfl,hl1,hl2⟩:=hv.shape;obtain⟨W1,hW1⟩:∃W,w.alloc (.cells #[.int .i64 regs,.slice va bs.length vc] 24)=W:=⟨_,rfl⟩
 have BB:Hid (Since w W1):=by rw[←hW1];exact(Below.refl _ _).alloc (Nat.le_refl _) _
 have p0:W1.cell? ⟨w.heap.size,0,none⟩=some (.int .i64 regs):=by rw[←hW1];simp[go_sem]
 have p1:W1.cell? ⟨w.heap.size,1,none⟩=some (.slice va bs.length vc):=by rw[←hW1];simp[go_sem]
 have hs:w.heap.size<W1.heap.size:=by rw[←hW1];simp
 have P0:=hid p0;have P1:=hid p1;have C0:=hid (A3y set 0 1);have C1:=hid (Z7 regs bs _ W1 (HV.out.stays BB.out) h0 h1);have HC:=Y6 set regs bs;generalize F3 set regs bs=q at*
 generalize K9 regs bs=e0 at*
 clear hv;rcases HC with⟨hz,rfl⟩|⟨hz,rfl⟩|⟨rfl,hn,rfl⟩|⟨rfl,hn,rfl⟩|⟨rfl,rfl,hr,rfl⟩|⟨rfl,rfl,hr,rfl⟩|⟨rfl,rfl,hr,rfl⟩|⟨rfl,rfl,hr,rfl⟩
 ·exact A8q
 ·exact A8q
 ·have C0:Hid (∀w,Calls prog 38 #[.int .i64 0,.int .i64 0,.int .i64 1] w fun e w'=>e= .returned (.bool true)∧w=w'):=C0;have d1:(q !=0)=true:=by simpa using hn
  exact A3E
 ·have C0:Hid (∀w,Calls prog 38 #[.int .i64 1,.int .i64 0,.int .i64 1] w fun e w'=>e= .returned (.bool true)∧w=w'):=C0;have d1:(q !=0)=true:=by simpa using hn
  exact A3E
 ·have C0:Hid (∀w,Calls prog 38 #[.int .i64 0,.int .i64 0,.int .i64 1] w fun e w'=>e= .returned (.bool true)∧w=w'):=C0;have d2:decide (10<regs)=true:=by simpa using hr
  exact A3E
 ·have C0:Hid (∀w,Calls prog 38 #[.int .i64 1,.int .i64 0,.int .i64 1] w fun e w'=>e= .returned (.bool true)∧w=w'):=C0;have d2:decide (4<regs)=true:=by simpa using hr
  exact A3E
 ·have C0:Hid (∀w,Calls prog 38 #[.int .i64 0,.int .i64 0,.int .i64 1] w fun e w'=>e= .returned (.bool true)∧w=w'):=C0;have d2:decide (10<regs)=false:=by simpa using hr
  exact A3E
 ·have C0:Hid (∀w,Calls prog 38 #[.int .i64 1,.int .i64 0,.int .i64 1] w fun e w'=>e= .returned (.bool true)∧w=w'):=C0;have d2:decide (4<regs)=false:=by simpa using hr
  exact A3E
theorem A8Z(regs:Int)(bs:List (List Cd))(v:Value)(w:World)(hv:Bls w v bs)(h0:toC bs≤500)(h1:bs.length≤500)(hz:K9 regs bs=0):Calls prog 11 #[.agg #[.int .i64 regs,v]] w fun e w'=>e= .returned (.tuple #[.int .i64 (toC bs:Nat),.int .i64 0])∧Below w.heap.size w w':=by
 have HV:=hid hv;obtain⟨va,vc,rfl,hl1,hl2⟩:=hv.shape;obtain⟨W1,hW1⟩:∃W,w.alloc (.cells #[.int .i64 regs,.slice va bs.length vc] 24)=W:=⟨_,rfl⟩
 have BB:Hid (Since w W1):=by rw[←hW1];exact(Below.refl _ _).alloc (Nat.le_refl _) _
 have p0:W1.cell? ⟨w.heap.size,0,none⟩=some (.int .i64 regs):=by rw[←hW1];simp[go_sem]
 have p1:W1.cell? ⟨w.heap.size,1,none⟩=some (.slice va bs.length vc):=by rw[←hW1];simp[go_sem]
 have hs:w.heap.size<W1.heap.size:=by rw[←hW1];simp
 have P0:=hid p0;have P1:=hid p1;have C1:=hid (Z7 regs bs _ W1 (HV.out.stays BB.out) h0 h1);rw[hz]at C1;have C2:=hid (fun(wk:World) (h:Since W1 wk)=>A2r regs bs _ wk (HV.out.stays (A8 BB.out h)) h0 h1);clear hv;go_enter func11,ntmps11;go_wp2_with(first|((with_reducible refine C1.out.mono ?_);rintro e w2 ⟨rfl,hb2⟩;have p0b:=A7 hb2 hs P0.out;have p1b:=A7 hb2 hs P1.out;have HB2:Hid (Since W1 w2):=hid hb2;clear hb2)|((with_reducible refine(C2.out _ HB2.out).mono ?_);rintro e w3 ⟨rfl,hb3⟩))
 exact bodyPost_ret (v:=.tuple #[.int .i64 _,.int .i64 0]) (by simp[results,results11,go_sem]) rfl ⟨rfl,A8 (A8 BB.out HB2.out) hb3⟩
def tgt(set:Int):Value:=if set=0 then .iface 188 (.agg #[])else .iface 189 (.agg #[])
def A9u(set regs:Int)(bs:List (List Cd))(w:World)(e:Ending)(w':World):Prop:=
 ((F3 set regs bs≠0∧e= .returned (.tuple #[.nilIface,.int .i64 (F3 set regs bs)]))∨(F3 set regs bs=0∧e= .returned (.tuple #[tgt set,.int .i64 0])))∧Below w.heap.size w w'
set_option maxHeartbeats 2000000 in
theorem A8T(set regs:Int)(bs:List (List Cd))(v:Value)(w:World)(hv:Bls w v bs)(h0:toC bs≤500)(h1:bs.length≤500):Calls prog 71 #[.int .i64 set,.agg #[.int .i64 regs,v]] w (A9u set regs bs w):=by
 have HV:=hid hv;obtain⟨va,vc,rfl,hl1,hl2⟩:=hv.shape;obtain⟨W1,hW1⟩:∃W,w.alloc (.cells #[.int .i64 regs,.slice va bs.length vc] 24)=W:=⟨_,rfl⟩
 have BB:Hid (Since w W1):=by rw[←hW1];exact(Below.refl _ _).alloc (Nat.le_refl _) _
 have p0:W1.cell? ⟨w.heap.size,0,none⟩=some (.int .i64 regs):=by rw[←hW1];simp[go_sem]
 have p1:W1.cell? ⟨w.heap.size,1,none⟩=some (.slice va bs.length vc):=by rw[←hW1];simp[go_sem]
 have hs:w.heap.size<W1.heap.size:=by rw[←hW1];simp
 have P0:=hid p0;have P1:=hid p1;have C1:=hid (A1p regs bs _ W1 (HV.out.stays BB.out) h0 h1);have C2:=hid A1k;have C3:=hid A0d;have HC:=Y6 set regs bs;unfold A9u;generalize F3 set regs bs=q at*
 generalize K9 regs bs=e0 at*
 clear hv;rcases HC with⟨hz,rfl⟩|⟨hz,rfl⟩|⟨rfl,hn,rfl⟩|⟨rfl,hn,rfl⟩|⟨rfl,rfl,hr,rfl⟩|⟨rfl,rfl,hr,rfl⟩|⟨rfl,rfl,hr,rfl⟩|⟨rfl,rfl,hr,rfl⟩
 ·have d0:decide (set<0)=true:=decide_eq_true hz;go_enter func71,ntmps71;go_upto_region 60 with fail
  refine bodyPost_ret (v:=.tuple #[.nilIface,.int .i64 1]) (by simp[results,results71,go_sem]) rfl ?_;exact⟨.inl ⟨by decide,rfl⟩,BB.out⟩
 ·have d0:decide (set<0)=false:=decide_eq_false (by omega);have d1:decide (1<set)=true:=decide_eq_true hz;go_enter func71,ntmps71;go_upto_region 60 with fail
  refine bodyPost_ret (v:=.tuple #[.nilIface,.int .i64 1]) (by simp[results,results71,go_sem]) rfl ?_;exact⟨.inl ⟨by decide,rfl⟩,BB.out⟩
 ·have d1:(q !=0)=true:=by simpa using hn
  have HNN:=hid hn;clear hn;exact A8n
 ·have d1:(q !=0)=true:=by simpa using hn
  have HNN:=hid hn;clear hn;exact A8n
 ·have d2:decide (10<regs)=true:=by simpa using hr
  clear hr;go_enter func71,ntmps71;go_upto_region 7 with(go_at_call 98;(with_reducible refine C1.out.mono ?_);rintro e w2 ⟨rfl,hb2⟩;have p0b:=A7 hb2 hs P0.out;have HB2:=hid hb2;clear hb2 p0 p1)
  have hl2:w.heap.size<w2.heap.size:=B6 p0b;generalize hW3:w2.alloc (.cells #[.iface 188 (.agg #[]),.iface 189 (.agg #[])] 102)=W3;have B3:Hid (Below w2.heap.size w2 W3):=by rw[←hW3];exact(Below.refl _ _).alloc (Nat.le_refl _) _
  have HW3:Hid (Below w.heap.size w W3):=A8 (A8 BB.out HB2.out) B3.out;have p03:=A7 B3.out hl2 p0b;have r0:∀wk,Since W3 wk→wk.cell? ⟨w.heap.size,0,none⟩=some (.int .i64 regs):=fun wk h=>h.cell p03
  have h00:=Since.refl W3;clear hW3 p0b p03;have hm:=i8 390;simp only[String.reducePush,String.reduceAppend,Nat.reduceAdd]at hm
  go_region_held3(fun wk=>Since W3 wk) (first|assumption|exact Since.drew (by assumption)) ((go_at_call 270;with_reducible refine(C2.out _).mono ?_;rintro e w1 ⟨rfl,hb1⟩;have hs1:=Since.next (by assumption) hb1))
  all_goals go_wp2_with fail
  all_goals refine bodyPost_ret (v:=.tuple #[.nilIface,.int .i64 3]) (by simp[results,results71,go_sem]) rfl ⟨.inl ⟨by decide,rfl⟩,?_⟩
  all_goals exact A8 HW3.out (show Below W3.heap.size W3 _ by assumption)
 ·have d2:decide (4<regs)=true:=by simpa using hr
  clear hr;go_enter func71,ntmps71;go_upto_region 7 with(go_at_call 98;(with_reducible refine C1.out.mono ?_);rintro e w2 ⟨rfl,hb2⟩;have p0b:=A7 hb2 hs P0.out;have HB2:=hid hb2;clear hb2 p0 p1)
  have hl2:w.heap.size<w2.heap.size:=B6 p0b;generalize hW3:w2.alloc (.cells #[.iface 188 (.agg #[]),.iface 189 (.agg #[])] 102)=W3;have B3:Hid (Below w2.heap.size w2 W3):=by rw[←hW3];exact(Below.refl _ _).alloc (Nat.le_refl _) _
  have HW3:Hid (Below w.heap.size w W3):=A8 (A8 BB.out HB2.out) B3.out;have p03:=A7 B3.out hl2 p0b;have r0:∀wk,Since W3 wk→wk.cell? ⟨w.heap.size,0,none⟩=some (.int .i64 regs):=fun wk h=>h.cell p03
  have h00:=Since.refl W3;clear hW3 p0b p03;have hm:=i7 390;simp only[String.reducePush,String.reduceAppend,Nat.reduceAdd]at hm
  go_region_held3(fun wk=>Since W3 wk) (first|assumption|exact Since.drew (by assumption)) ((go_at_call 280;with_reducible refine(C3.out _).mono ?_;rintro e w1 ⟨rfl,hb1⟩;have hs1:=Since.next (by assumption) hb1))
  all_goals go_wp2_with fail
  all_goals refine bodyPost_ret (v:=.tuple #[.nilIface,.int .i64 3]) (by simp[results,results71,go_sem]) rfl ⟨.inl ⟨by decide,rfl⟩,?_⟩
  all_goals exact A8 HW3.out (show Below W3.heap.size W3 _ by assumption)
 ·have d2:decide (10<regs)=false:=by simpa using hr
  clear hr;go_enter func71,ntmps71;go_upto_region 7 with(go_at_call 98;(with_reducible refine C1.out.mono ?_);rintro e w2 ⟨rfl,hb2⟩;have p0b:=A7 hb2 hs P0.out;have HB2:=hid hb2;clear hb2 p0 p1)
  have hl2:w.heap.size<w2.heap.size:=B6 p0b;generalize hW3:w2.alloc (.cells #[.iface 188 (.agg #[]),.iface 189 (.agg #[])] 102)=W3;have B3:Hid (Below w2.heap.size w2 W3):=by rw[←hW3];exact(Below.refl _ _).alloc (Nat.le_refl _) _
  have HW3:Hid (Below w.heap.size w W3):=A8 (A8 BB.out HB2.out) B3.out;have p03:=A7 B3.out hl2 p0b;have r0:∀wk,Since W3 wk→wk.cell? ⟨w.heap.size,0,none⟩=some (.int .i64 regs):=fun wk h=>h.cell p03
  have h00:=Since.refl W3;clear hW3 p0b p03;have hm:=i8 390;simp only[String.reducePush,String.reduceAppend,Nat.reduceAdd]at hm
  go_region_held3(fun wk=>Since W3 wk) (first|assumption|exact Since.drew (by assumption)) ((go_at_call 270;with_reducible refine(C2.out _).mono ?_;rintro e w1 ⟨rfl,hb1⟩;have hs1:=Since.next (by assumption) hb1))
  all_goals go_wp2_with fail
  all_goals refine bodyPost_ret (v:=.tuple #[.iface 188 (.agg #[]),.int .i64 0]) (by simp[results,results71,go_sem]) rfl ⟨.inr ⟨trivial,by simp[tgt]⟩,?_⟩
  all_goals exact A8 HW3.out (show Below W3.heap.size W3 _ by assumption)
 ·have d2:decide (4<regs)=false:=by simpa using hr
  clear hr;go_enter func71,ntmps71;go_upto_region 7 with(go_at_call 98;(with_reducible refine C1.out.mono ?_);rintro e w2 ⟨rfl,hb2⟩;have p0b:=A7 hb2 hs P0.out;have HB2:=hid hb2;clear hb2 p0 p1)
  have hl2:w.heap.size<w2.heap.size:=B6 p0b;generalize hW3:w2.alloc (.cells #[.iface 188 (.agg #[]),.iface 189 (.agg #[])] 102)=W3;have B3:Hid (Below w2.heap.size w2 W3):=by rw[←hW3];exact(Below.refl _ _).alloc (Nat.le_refl _) _
  have HW3:Hid (Below w.heap.size w W3):=A8 (A8 BB.out HB2.out) B3.out;have p03:=A7 B3.out hl2 p0b;have r0:∀wk,Since W3 wk→wk.cell? ⟨w.heap.size,0,none⟩=some (.int .i64 regs):=fun wk h=>h.cell p03
  have h00:=Since.refl W3;clear hW3 p0b p03;have hm:=i7 390;simp only[String.reducePush,String.reduceAppend,Nat.reduceAdd]at hm
  go_region_held3(fun wk=>Since W3 wk) (first|assumption|exact Since.drew (by assumption)) ((go_at_call 280;with_reducible refine(C3.out _).mono ?_;rintro e w1 ⟨rfl,hb1⟩;have hs1:=Since.next (by assumption) hb1))
  all_goals go_wp2_with fail
  all_goals refine bodyPost_ret (v:=.tuple #[.iface 189 (.agg #[]),.int .i64 0]) (by simp[results,results71,go_sem]) rfl ⟨.inr ⟨trivial,by simp[tgt]⟩,?_⟩
  all_goals exact A8 HW3.out (show Below W3.heap.size W3 _ by assumption)
def tS(set:Int):TypeId:=if set=0 then 188 else 189
def fSz(set:Int):FuncId:=if set=0 then 271 else 281
def fRe(set:Int):FuncId:=if set=0 then 269 else 279
def fBr(set:Int):FuncId:=if set=0 then 267 else 277
def fPl(set:Int):FuncId:=if set=0 then 268 else 278
theorem A7F(set:Int):tgt set= .iface (tS set) (.agg #[]):=by unfold tgt tS;split<;>rfl
theorem A3b (set : Int) (n : Nat) (w : World) : Sem.run prog (Go.method (n + 1) (tS set) (.agg #[]) ("backstay".push (Char.ofNat 47) ++ "place.size")) w = .ok (fSz set, .agg #[]) w := by
 unfold tS fSz;split
 ·exact A1w n w
 ·exact A1v n w
theorem U9 (set : Int) (n : Nat) (w : World) : Sem.run prog (Go.method (n + 1) (tS set) (.agg #[]) ("backstay".push (Char.ofNat 47) ++ "place.reaches")) w = .ok (fRe set, .agg #[]) w := by
 unfold tS fRe;split
 ·exact o7 n w
 ·exact o6 n w
theorem A0l (set : Int) (n : Nat) (w : World) : Sem.run prog (Go.method (n + 1) (tS set) (.agg #[]) ("backstay".push (Char.ofNat 47) ++ "place.branch")) w = .ok (fBr set, .agg #[]) w := by
 unfold tS fBr;split
 ·exact y8 n w
 ·exact y7 n w
theorem i9 (set : Int) (n : Nat) (w : World) : Sem.run prog (Go.method (n + 1) (tS set) (.agg #[]) ("backstay".push (Char.ofNat 47) ++ "place.plain")) w = .ok (fPl set, .agg #[]) w := by
 unfold tS fPl;split
 ·exact A0k n w
 ·exact A0j n w
theorem A6X(set:Int)(args:Array Value)(w:World):Sem.run prog (callFunc (fSz set) args) w= .ok (.enter (fSz set) args) w:=by
 unfold fSz;split
 ·show Sem.run prog (callFunc 271 args) w= .ok (.enter 271 args) w
  go_simp
 ·show Sem.run prog (callFunc 281 args) w= .ok (.enter 281 args) w
  go_simp
theorem k7(set:Int)(args:Array Value)(w:World):Sem.run prog (callFunc (fRe set) args) w= .ok (.enter (fRe set) args) w:=by
 unfold fRe;split
 ·show Sem.run prog (callFunc 269 args) w= .ok (.enter 269 args) w
  go_simp
 ·show Sem.run prog (callFunc 279 args) w= .ok (.enter 279 args) w
  go_simp
theorem A3j(set:Int)(args:Array Value)(w:World):Sem.run prog (callFunc (fBr set) args) w= .ok (.enter (fBr set) args) w:=by
 unfold fBr;split
 ·show Sem.run prog (callFunc 267 args) w= .ok (.enter 267 args) w
  go_simp
 ·show Sem.run prog (callFunc 277 args) w= .ok (.enter 277 args) w
  go_simp
theorem A1N(set:Int)(args:Array Value)(w:World):Sem.run prog (callFunc (fPl set) args) w= .ok (.enter (fPl set) args) w:=by
 unfold fPl;split
 ·show Sem.run prog (callFunc 268 args) w= .ok (.enter 268 args) w
  go_simp
 ·show Sem.run prog (callFunc 278 args) w= .ok (.enter 278 args) w
  go_simp
theorem A4L(set:Int)(x:Cd)(long:Bool)(w:World):Calls prog (fSz set) #[.agg #[],ncV x,.bool long] w fun e w'=>e= .returned (.int .i64 (szB set x.o long:Nat))∧Below w.heap.size w w':=by
 unfold fSz szB;split
 ·exact A8e x long w
 ·exact p4 x long w
theorem Z6(set:Int)(x:Cd)(p q:Int)(hp:0≤p∧p≤100000)(hq:0≤q∧q≤100000)(w:World):Calls prog (fRe set) #[.agg #[],ncV x,.int .i64 p,.int .i64 q] w fun e w'=>e= .returned (.bool (A0e set x.o p q))∧Below w.heap.size w w':=by
 unfold fRe A0e;split
 ·exact A4S x p q hp hq w
 ·exact A4R x p q hp hq w
def A0L(set regs:Int):Prop:=(set=0∧regs≤10)∨(set=1∧regs≤4)
structure CdW(regs nb:Int)(x:Cd):Prop where
 ok:I9 regs nb x=true
 i0:0≤x.i
 i1:x.i<4294967296
theorem A6r{o:Int}(h:L9 o=false):o≠24∧o≠25:=by
 unfold L9 at h;simp only[Bool.or_eq_false_iff,beq_eq_false_iff_ne,ne_eq]at h;exact h
theorem p9{set regs nb:Int}(hs:A0L set regs)(x:Cd)(h:CdW regs nb x)(hb:L9 x.o=false)(w:World):Calls prog (fPl set) #[.agg #[],ncV x] w fun e w'=>∃u,e= .returned u∧RowI w' w.heap.size 5 .u8 u (plB set x)∧Below w.heap.size w w':=by
 rcases hs with⟨rfl,hr⟩|⟨rfl,hr⟩
 ·exact A1o x h.ok hr h.i0 h.i1 (A6r hb) w
 ·exact A1n x h.ok hr h.i0 h.i1 (A6r hb) (A4i h.i0 h.i1).1 w
theorem S4{set regs nb:Int}(hs:A0L set regs){x:Cd}(h:CdW regs nb x)(long:Bool):1≤N4 set x long∧N4 set x long≤45∧(set=0→N4 set x long%4=0):=by
 rcases hs with⟨rfl,hr⟩|⟨rfl,hr⟩
 ·obtain⟨a,b,c⟩:=A6J h.ok hr h.i1 long;exact⟨a,b,fun _=>c⟩
 ·obtain⟨a,b⟩:=A6I h.i0 h.i1 long;exact⟨a,b,fun e=>absurd e (by decide)⟩
theorem S3{set regs nb:Int}(hs:A0L set regs){cs:List Cd}(hc:∀j,j<cs.length→CdW regs nb (cs.getD j default))(h5:cs.length≤500)(lo:List Bool){i:Nat}(hi:i≤cs.length):D4 set cs lo i≤22500:=by
 have:=y6 set cs lo 45 cs.length (fun i hi=>(S4 hs (hc i hi) _).2.1) i hi;omega
def F4(set:Int)(cs:List Cd)(lo:List Bool):List Nat:=(List.range (cs.length+1)).map (D4 set cs lo)
theorem J3(set:Int)(cs:List Cd)(lo:List Bool):(F4 set cs lo).length=cs.length+1:=by unfold F4;simp
theorem L7(set:Int)(cs:List Cd)(lo:List Bool){i:Nat}(h:i≤cs.length):(F4 set cs lo).getD i 0=D4 set cs lo i:=by
 unfold F4;rw[List.getD_eq_getElem?_getD,List.getElem?_map,List.getElem?_range (by omega)];rfl
theorem A5v{set:Int}{cs:List Cd}{lo:List Bool}{st:List Nat}(hl:st.length=cs.length+1)(h:∀k,k<cs.length→st.getD k 0=D4 set cs lo k):st.set cs.length (D4 set cs lo cs.length)=F4 set cs lo:=by
 apply List.ext_getElem (by rw[List.length_set,hl,J3]);intro k h1 h2;rw[List.length_set,hl]at h1;rw[List.getElem_set];have e:=L7 set cs lo (i:=k) (by omega);rw[List.getD_eq_getElem?_getD,List.getElem?_eq_getElem h2,Option.getD_some]at e;rw[e]
 split
 ·subst_vars;rfl
 ·have e2:=h k (by omega);rw[List.getD_eq_getElem?_getD,List.getElem?_eq_getElem (by omega),Option.getD_some]at e2;exact e2
set_option maxHeartbeats 4000000 in
theorem A6K{set regs nb:Int}(hs:A0L set regs)(B L b cb d db s g:Nat)(cs:List Cd)(bl:List Int)(st:List Nat)(lo:List Bool)(hx:∀j,j<cs.length→CdW regs nb (cs.getD j default))(w:World)(h:LayW (tS set) B L b cb d db s g cs bl st lo w):Calls prog 72 #[.pointer (some ⟨L,0,none⟩)] w fun e w'=>e= .returned (.tuple #[])∧LayW (tS set) B L b cb d db s g cs bl (F4 set cs lo) lo w'∧Below B w w':=by
 have CB:=hid S5;have H:=hid h;obtain⟨n1,n2,n3,n4,n5,n6,n7,n8⟩:=h.hn;have hm:=A3b set 390;have hm2:=i9 set 390;simp only[String.reducePush,String.reduceAppend,Nat.reduceAdd]at hm hm2;have CS:=hid (A4L set);have CP:=hid (fun x h hb w=>p9 (nb:=nb) hs x h hb w);unfold ncV at CS CP;have HM:=hid hm;have HF1:=hid (A6X set);have HF2:=hid (A1N set);have HM2:=hid hm2;have HO:=hid (show∀i:Nat,i≤cs.length→D4 set cs lo i≤22500 from fun i hi=>S3 hs hx n8 lo hi);have HX:=hid hx;have l1:=h.hl.at 1 (.slice (some ⟨b,0,none⟩) cs.length cb) rfl;have hL:=h.hl.lt (by simp);clear hm hm2 hx h;generalize tS set=T at*
 generalize fSz set=FS at*
 generalize fPl set=FP at*
 go_enter func72,ntmps72;go_wp2_with fail
 go_loopw[2,3,10] (fun at' _ i wr=>∃(j:Nat) (st':List Nat),j≤cs.length∧i= .int .i64 (j:Nat)∧at'= .int .i64 (D4 set cs lo j:Nat)∧Hid (LayW T B L b cb d db s g cs bl st' lo wr)∧Hid (∀k,k<j→st'.getD k 0=D4 set cs lo k)∧Hid (Below B w wr)) (fun _ _ i _=>cs.length-(intOf i).toNat)
 case atStart=>exact⟨0,st,Nat.zero_le _,rfl,rfl,H,hid (fun k hk=>absurd hk (Nat.not_lt_zero _)),hid (Below.refl _ _)⟩
 case round=>
  obtain⟨j,st',hj,rfl,rfl,HA,HP,HB⟩:=hrel;by_cases hlt:j<cs.length
  ·have hlt':(j:Int)<(cs.length:Int):=Int.ofNat_lt.2 hlt;obtain⟨c0,c1,c2,c3,c4,c5⟩:=HA.out.hc j hlt;generalize hxx:cs.getD j default=x at*
   have hb:=B6 c0;have hne1:¬b=wr.heap.size:=by omega
   have hsl:=HA.out.hs.lt (by rw[List.length_map,HA.out.ls];omega);have l1r:=HA.out.hl.at 1 (.slice (some ⟨b,0,none⟩) cs.length cb) rfl;go_upto_region 4 with fail
   generalize hW1:wr.alloc (.cells #[.int .i64 x.o,.int .i64 x.d,.int .i64 x.a,.int .i64 x.b,.int .u32 x.i,.int .i64 x.t] 61)=wA;have BB:Hid (Below wr.heap.size wr wA):=by rw[←hW1];exact(Below.refl _ _).alloc (Nat.le_refl _) _
   have hsz:wA.heap.size=wr.heap.size+1:=by rw[←hW1];simp
   have HB1:Hid (Cls wA wr.heap.size [.int .i64 x.o,.int .i64 x.d,.int .i64 x.a,.int .i64 x.b,.int .u32 x.i,.int .i64 x.t]):=by rw[←hW1];exact Cls.made
   have H1:Hid (LayW T B L b cb d db s g cs bl st' lo wA):=HA.out.below BB.out;have d3:=H1.out.hl.at 3 (.slice (some ⟨s,0,none⟩) (cs.length+1) (cs.length+1)) rfl;have hjs:j<st'.length:=by rw[HA.out.ls];omega
   have e0:=H1.out.hs.at j (.int .i64 (st'.getD j 0:Nat)) (by rw[List.getElem?_map,List.getD_eq_getElem?_getD,List.getElem?_eq_getElem hjs];rfl);have f0:=H1.out.hs.at' j (.int .i64 (st'.getD j 0:Nat)) (by rw[List.getElem?_map,List.getD_eq_getElem?_getD,List.getElem?_eq_getElem hjs];rfl);have x0:=HB1.out.at 0 (.int .i64 x.o) rfl;have hne2:¬s=wr.heap.size:=by omega
   have hjs1:(j:Int)<(cs.length:Int)+1:=by omega
   have H2:Hid (LayW T B L b cb d db s g cs bl (st'.set j (D4 set cs lo j)) lo (wA.setCell ⟨s,j,none⟩ (.int .i64 (D4 set cs lo j:Nat)))):=H1.out.setS (by omega) _;have HB2:Hid (Cls (wA.setCell ⟨s,j,none⟩ (.int .i64 (D4 set cs lo j:Nat))) wr.heap.size [.int .i64 x.o,.int .i64 x.d,.int .i64 x.a,.int .i64 x.b,.int .u32 x.i,.int .i64 x.t]):=HB1.out.other (by omega) _;have B2:Hid (Below B w (wA.setCell ⟨s,j,none⟩ (.int .i64 (D4 set cs lo j:Nat)))):=A9 (B7 HB.out (by omega) BB.out) n4 _ _;have HPn:Hid (∀k,k<j+1→(st'.set j (D4 set cs lo j)).getD k 0=D4 set cs lo k):=hid (fun k hk=>by
    by_cases e:k=j
    ·subst e;rw[List.getD_eq_getElem?_getD,List.getElem?_set_self hjs];rfl
    ·rw[List.getD_eq_getElem?_getD,List.getElem?_set_ne (Ne.symm e),←List.getD_eq_getElem?_getD];exact HP.out k (by omega))
   have HXX:Hid (CdW regs nb x):=hid (hxx▸HX.out j hlt);clear hsz hW1;cases hbr:L9 x.o
   ·have hE:N4 set x (lo.getD j false)=(plB set x).length:=by unfold N4;rw[hbr];rfl
    have hstep:D4 set cs lo (j+1)=D4 set cs lo j+N4 set x (lo.getD j false):=by rw[←hxx];rfl
    rw[hE]at hstep;have hO1:=HO.out (j+1) (by omega);have C1:Hid (∀w,Calls prog 36 #[.int .i64 x.o] w fun e w'=>e= .returned (.bool false)∧w=w'):=hid (fun w=>by have:=CB.out x.o w;rw[hbr]at this;exact this);go_wp2_with(go_at_call 36;with_reducible refine(C1.out _).mono ?_;rintro e w' ⟨rfl,rfl⟩)
    generalize wA.setCell ⟨s,j,none⟩ (.int .i64 (D4 set cs lo j:Nat))=W2 at*
    have hm:=HM2.out;have hcf:=HF2.out;generalize hbj:lo.getD j false=bj at*
    have t0:=H2.out.hl.at 0 (.iface T (.agg #[])) rfl;have r0:∀wk,Since W2 wk→wk.cell? ⟨L,0,none⟩=some (.iface T (.agg #[])):=fun wk h=>h.cell t0
    have y0:=HB2.out.at 0 (.int .i64 x.o) rfl;have y1:=HB2.out.at 1 (.int .i64 x.d) rfl;have y2:=HB2.out.at 2 (.int .i64 x.a) rfl;have y3:=HB2.out.at 3 (.int .i64 x.b) rfl;have y4:=HB2.out.at 4 (.int .u32 x.i) rfl;have y5:=HB2.out.at 5 (.int .i64 x.t) rfl;have k0:∀wk,Since W2 wk→wk.cell? ⟨wr.heap.size,0,none⟩=some (.int .i64 x.o):=fun wk h=>h.cell y0
    have k1:∀wk,Since W2 wk→wk.cell? ⟨wr.heap.size,1,none⟩=some (.int .i64 x.d):=fun wk h=>h.cell y1
    have k2:∀wk,Since W2 wk→wk.cell? ⟨wr.heap.size,2,none⟩=some (.int .i64 x.a):=fun wk h=>h.cell y2
    have k3:∀wk,Since W2 wk→wk.cell? ⟨wr.heap.size,3,none⟩=some (.int .i64 x.b):=fun wk h=>h.cell y3
    have k4:∀wk,Since W2 wk→wk.cell? ⟨wr.heap.size,4,none⟩=some (.int .u32 x.i):=fun wk h=>h.cell y4
    have k5:∀wk,Since W2 wk→wk.cell? ⟨wr.heap.size,5,none⟩=some (.int .i64 x.t):=fun wk h=>h.cell y5
    have h00:=Since.refl W2;have hltb:=B6 y0;clear t0 y0 y1 y2 y3 y4 y5 x0 d3 e0 f0 l1 l1r c0 c1 c2 c3 c4 c5;generalize hpn:D4 set cs lo j=pn at*
    generalize hqn:(plB set x).length=qn at*
    have hsum:IntKind.i64.wrap ((pn:Int)+(qn:Int))=((pn+qn:Nat):Int):=by rw[IntWalk.i64_left];rw[IntWalk.wrap64_in _ (by omega)];omega
    have hsum2:IntKind.i64.wrap (qn:Int)=(qn:Int):=by rw[IntWalk.i64_left];exact IntWalk.wrap64_in _ (by omega)
    go_region_held3(fun wk=>Since W2 wk) (first|assumption|exact Since.drew (by assumption)) ((with_reducible refine(CP.out x HXX.out hbr _).mono ?_;rintro e w3 ⟨v3,rfl,hr3,hb3⟩;obtain⟨va,vc,rfl⟩:=hr3.shape;have hs1:=Since.next (by assumption) hb3))
    all_goals
     have hS:Since W2 w3:=by assumption
     have hA:Hid (LayW T B L b cb d db s g cs bl (st'.set j pn) lo w3):=H2.out.below hS;have hBf:Hid (Below B w w3):=B7 B2.out (by omega) hS;have HST:=hid hstep;clear hS hstep hE;go_wp2_with fail
     go_roundw
     case rel=>exact⟨j+1,st'.set j pn,by omega,by go_num,by rw[HST.out,←hqn];go_num,hA,hid (HPn.out),hBf⟩
     case measure=>simp[intOf];omega
   ·have hE:N4 set x (lo.getD j false)=szB set x.o (lo.getD j false):=by unfold N4;rw[hbr];rfl
    have hstep:D4 set cs lo (j+1)=D4 set cs lo j+N4 set x (lo.getD j false):=by rw[←hxx];rfl
    rw[hE]at hstep;have hO1:=HO.out (j+1) (by omega);have C1:Hid (∀w,Calls prog 36 #[.int .i64 x.o] w fun e w'=>e= .returned (.bool true)∧w=w'):=hid (fun w=>by have:=CB.out x.o w;rw[hbr]at this;exact this);go_wp2_with(go_at_call 36;with_reducible refine(C1.out _).mono ?_;rintro e w' ⟨rfl,rfl⟩)
    generalize wA.setCell ⟨s,j,none⟩ (.int .i64 (D4 set cs lo j:Nat))=W2 at*
    have hm:=HM.out;have hcf:=HF1.out;generalize hbj:lo.getD j false=bj at*
    have t0:=H2.out.hl.at 0 (.iface T (.agg #[])) rfl;have r0:∀wk,Since W2 wk→wk.cell? ⟨L,0,none⟩=some (.iface T (.agg #[])):=fun wk h=>h.cell t0
    have y0:=HB2.out.at 0 (.int .i64 x.o) rfl;have y1:=HB2.out.at 1 (.int .i64 x.d) rfl;have y2:=HB2.out.at 2 (.int .i64 x.a) rfl;have y3:=HB2.out.at 3 (.int .i64 x.b) rfl;have y4:=HB2.out.at 4 (.int .u32 x.i) rfl;have y5:=HB2.out.at 5 (.int .i64 x.t) rfl;have k0:∀wk,Since W2 wk→wk.cell? ⟨wr.heap.size,0,none⟩=some (.int .i64 x.o):=fun wk h=>h.cell y0
    have k1:∀wk,Since W2 wk→wk.cell? ⟨wr.heap.size,1,none⟩=some (.int .i64 x.d):=fun wk h=>h.cell y1
    have k2:∀wk,Since W2 wk→wk.cell? ⟨wr.heap.size,2,none⟩=some (.int .i64 x.a):=fun wk h=>h.cell y2
    have k3:∀wk,Since W2 wk→wk.cell? ⟨wr.heap.size,3,none⟩=some (.int .i64 x.b):=fun wk h=>h.cell y3
    have k4:∀wk,Since W2 wk→wk.cell? ⟨wr.heap.size,4,none⟩=some (.int .u32 x.i):=fun wk h=>h.cell y4
    have k5:∀wk,Since W2 wk→wk.cell? ⟨wr.heap.size,5,none⟩=some (.int .i64 x.t):=fun wk h=>h.cell y5
    have h00:=Since.refl W2;have hltb:=B6 y0;have g0:=H2.out.hg.at j (.bool bj) (by rw[←hbj,List.getElem?_map,List.getD_eq_getElem?_getD,List.getElem?_eq_getElem (by rw[HA.out.lg];exact hlt)];rfl);have t4:=H2.out.hl.at 4 (.slice (some ⟨g,0,none⟩) cs.length cs.length) rfl;have r4:∀wk,Since W2 wk→wk.cell? ⟨L,4,none⟩=some (.slice (some ⟨g,0,none⟩) cs.length cs.length):=fun wk h=>h.cell t4
    have r5:∀wk,Since W2 wk→wk.cell? ⟨g,j,none⟩=some (.bool bj):=fun wk h=>h.cell g0
    clear g0 t4;clear t0 y0 y1 y2 y3 y4 y5 x0 d3 e0 f0 l1 l1r c0 c1 c2 c3 c4 c5;generalize hpn:D4 set cs lo j=pn at*
    generalize hqn:szB set x.o bj=qn at*
    have hsum:IntKind.i64.wrap ((pn:Int)+(qn:Int))=((pn+qn:Nat):Int):=by rw[IntWalk.i64_left];rw[IntWalk.wrap64_in _ (by omega)];omega
    have hsum2:IntKind.i64.wrap (qn:Int)=(qn:Int):=by rw[IntWalk.i64_left];exact IntWalk.wrap64_in _ (by omega)
    go_region_held3(fun wk=>Since W2 wk) (first|assumption|exact Since.drew (by assumption)) ((with_reducible refine(CS.out x _ _).mono ?_;rintro e w3 ⟨rfl,hb3⟩;have hs1:=Since.next (by assumption) hb3))
    all_goals
     have hS:Since W2 w3:=by assumption
     have hA:Hid (LayW T B L b cb d db s g cs bl (st'.set j pn) lo w3):=H2.out.below hS;have hBf:Hid (Below B w w3):=B7 B2.out (by omega) hS;have HST:=hid hstep;clear hS hstep hE;go_wp2_with fail
     go_roundw
     case rel=>exact⟨j+1,st'.set j pn,by omega,by go_num,by rw[HST.out,←hqn];go_num,hA,hid (HPn.out),hBf⟩
     case measure=>simp[intOf];omega
  ·obtain rfl:j=cs.length:=by omega
   have hd:decide ((cs.length:Int)<(cs.length:Int))=false:=decide_eq_false (by omega);have hjs:cs.length<st'.length:=by rw[HA.out.ls];omega
   have d1:=HA.out.hl.at 1 (.slice (some ⟨b,0,none⟩) cs.length cb) rfl;have d3:=HA.out.hl.at 3 (.slice (some ⟨s,0,none⟩) (cs.length+1) (cs.length+1)) rfl;have e1:=HA.out.hs.at cs.length (.int .i64 (st'.getD cs.length 0:Nat)) (by rw[List.getElem?_map,List.getD_eq_getElem?_getD,List.getElem?_eq_getElem hjs];rfl);have f1:=HA.out.hs.at' cs.length (.int .i64 (st'.getD cs.length 0:Nat)) (by rw[List.getElem?_map,List.getD_eq_getElem?_getD,List.getElem?_eq_getElem hjs];rfl);have hjs1:(cs.length:Int)<(cs.length:Int)+1:=by omega
   have HF:Hid (LayW T B L b cb d db s g cs bl (F4 set cs lo) lo ((wr.drewN 1).setCell ⟨s,cs.length,none⟩ (.int .i64 (D4 set cs lo cs.length:Nat)))):=by
    have:=(HA.out.below (B8 (Below.refl _ _) 1)).setS (Nat.le_refl _) (D4 set cs lo cs.length);rw[A5v HA.out.ls HP.out]at this;exact this
   clear l1;go_wp2_with fail
   go_region
   refine bodyPost_end (v:=.tuple #[]) (by simp[results,results72,go_sem]) rfl ⟨rfl,HF.out,A9 (HB.out.trans (B8 (Below.refl _ _) 1)) n4 _ _⟩
set_option maxHeartbeats 2000000 in
theorem A1f{T:TypeId}(B L b cb d db s g:Nat)(cs:List Cd)(bl:List Int)(st:List Nat)(lo:List Bool)(x:Cd)(k m:Nat)(hk:x.t=k)(hkl:k<bl.length)(hm:bl.getD k 0=m)(hml:m≤cs.length)(w:World)(h:LayW T B L b cb d db s g cs bl st lo w):Calls prog 37 #[.pointer (some ⟨L,0,none⟩),ncV x] w fun e w'=>e= .returned (.int .i64 (st.getD m 0:Nat))∧Below w.heap.size w w':=by
 obtain⟨xo,xd,xa,xb,xi,xt⟩:=x;subst hk;unfold ncV;obtain⟨n1,n2,n3,n4,n5,n6,n7,n8⟩:=h.hn;have l2:=h.hl.at 2 (.slice (some ⟨d,0,none⟩) bl.length db) rfl;have l3:=h.hl.at 3 (.slice (some ⟨s,0,none⟩) (cs.length+1) (cs.length+1)) rfl;have c2:=h.hd k hkl;rw[hm]at c2;have c3:=h.hs.at m (.int .i64 (st.getD m 0:Nat)) (by
  rw[List.getElem?_map,List.getD_eq_getElem?_getD,List.getElem?_eq_getElem (by rw[h.ls];omega)];rfl)
 have hL:=B6 l2;have hd:=B6 c2;have hsl:=B6 c3;have e1:(0:Int)≤k:=by omega
 have e2:(k:Int)<bl.length:=by omega
 have e3:(m:Int)<(cs.length:Int)+1:=by omega
 have hLc:bl.length≤bl.length:=Nat.le_refl _;clear h;generalize hW1:w.alloc (.cells #[.int .i64 xo,.int .i64 xd,.int .i64 xa,.int .i64 xb,.int .u32 xi,.int .i64 k] 61)=W1;have BB:Hid (Below w.heap.size w W1):=by rw[←hW1];exact(Below.refl _ _).alloc (Nat.le_refl _) _
 have p5:W1.cell? ⟨w.heap.size,5,none⟩=some (.int .i64 k):=by rw[←hW1];simp[go_sem]
 have l2:=A7 BB.out hL l2;have l3:=A7 BB.out hL l3;have c2:=A7 BB.out hd c2;have c3:=A7 BB.out hsl c3;go_enter func37,ntmps37;go_wp2_with fail
 go_quiet(fail)
 go_wp2_with fail
 refine bodyPost_ret (by simp[results,results37,go_sem]) rfl ⟨rfl,B8 BB.out _⟩
theorem E6(bs:List (List Cd)):bs.flatten.length=toC bs:=by unfold toC;exact List.length_flatten
theorem z8:∀(bs:List (List Cd)) (j i:Nat),j<bs.length→i<(bs.getD j []).length→bs.flatten.getD (toC (bs.take j)+i) default=(bs.getD j []).getD i default
 |[],j,i,h,_=>absurd h (Nat.not_lt_zero _)
 |b::r,0,i,_,hi=>by
  have hi':i<b.length:=hi;have e:toC ((b::r).take 0)+i=i:=by simp[toC]
  rw[e,List.flatten_cons,List.getD_eq_getElem?_getD,List.getElem?_append_left hi'];rw[←List.getD_eq_getElem?_getD];rfl
 |b::r,j+1,i,hj,hi=>by
  have ih:=z8 r j i (by simpa using hj) (by simpa using hi);have e:toC ((b::r).take (j+1))+i=b.length+(toC (r.take j)+i):=by simp[toC];omega
  rw[e,List.flatten_cons,List.getD_eq_getElem?_getD,List.getElem?_append_right (by omega)];rw[Nat.add_sub_cancel_left,←List.getD_eq_getElem?_getD,ih];simp
theorem A2m:∀(bs:List (List Cd)) (k:Nat),k<toC bs→∃j i,j<bs.length∧i<(bs.getD j []).length∧k=toC (bs.take j)+i
 |[],k,h=>by simp[toC]at h
 |b::r,k,h=>by
  by_cases hk:k<b.length
  ·exact⟨0,k,by simp,by simpa using hk,by simp[toC]⟩
  ·have e:toC (b::r)=b.length+toC r:=by simp[toC]
   obtain⟨j,i,h1,h2,h3⟩:=A2m r (k-b.length) (by omega);refine⟨j+1,i,by simpa using h1,by simpa using h2,?_⟩;have e2:toC ((b::r).take (j+1))=b.length+toC (r.take j):=by simp[toC]
   omega
def blS(bs:List (List Cd)):List Int:=(List.range bs.length).map fun j=>(toC (bs.take j):Int)
theorem L8(bs:List (List Cd)):(blS bs).length=bs.length:=by unfold blS;simp
theorem A0H(bs:List (List Cd)){j:Nat}(h:j<bs.length):(blS bs).getD j 0=(toC (bs.take j):Int):=by
 unfold blS;rw[List.getD_eq_getElem?_getD,List.getElem?_map,List.getElem?_range h];rfl
theorem M8{regs:Int}{bs:List (List Cd)}(h:K9 regs bs=0):H3 regs bs∧V4 regs bs∧R4 bs:=by
 unfold K9 at h;by_cases h1:H3 regs bs
 ·rw[if_pos h1]at h;by_cases h2:V4 regs bs
  ·rw[if_pos h2]at h;by_cases h3:R4 bs
   ·exact⟨h1,h2,h3⟩
   ·rw[if_neg h3]at h;cases h
  ·rw[if_neg h2]at h;cases h
 ·rw[if_neg h1]at h;cases h
def A0M(bs:List (List Cd)):Prop:=∀l∈bs,∀x∈l,0≤x.i∧x.i<4294967296
theorem d9{regs:Int}{bs:List (List Cd)}(h:K9 regs bs=0)(hi:A0M bs):∀k,k<bs.flatten.length→CdW regs bs.length (bs.flatten.getD k default):=by
 intro k hk;rw[E6]at hk;obtain⟨j,i,h1,h2,rfl⟩:=A2m bs k hk;rw[z8 bs j i h1 h2];have hl:bs.getD j []∈bs:=by
  rw[List.getD_eq_getElem?_getD,List.getElem?_eq_getElem h1];exact List.getElem_mem h1
 have hx:(bs.getD j []).getD i default∈bs.getD j []:=by
  rw[List.getD_eq_getElem?_getD (l:=bs.getD j []),List.getElem?_eq_getElem h2];exact List.getElem_mem h2
 obtain⟨a,b⟩:=hi _ hl _ hx;exact⟨(M8 h).2.1 j h1 i h2,a,b⟩
theorem A8P{regs nb:Int}{x:Cd}(h:I9 regs nb x=true)(hb:L9 x.o=true):0≤x.t∧x.t<nb:=by
 have ho:x.o=24∨x.o=25:=by
  unfold L9 at hb;simpa using hb
 unfold I9 at h;have hk:fdT (clO x.o)=true:=by rcases ho with e|e<;>rw[e]<;>decide
 simp only[Bool.and_eq_true,hk,wiN,if_true,decide_eq_true_eq]at h;exact h.2.2.2.2.1
def toF(set:Int)(cs:List Cd)(bl:List Int)(lo:List Bool)(x:Cd):Nat:=D4 set cs lo (bl.getD x.t.toNat 0).toNat
def l9(set:Int)(cs:List Cd)(bl:List Int)(lo:List Bool)(k:Nat):Prop:=
 L9 (cs.getD k default).o=true→lo.getD k false=false→A0e set (cs.getD k default).o (D4 set cs lo k:Nat) (toF set cs bl lo (cs.getD k default):Nat)=true
def LoOk(set:Int)(cs:List Cd)(lo:List Bool):Prop:=∀k,lo.getD k false=true→L9 (cs.getD k default).o=true∧(set=0→(cs.getD k default).o≠24)
def W9(set:Int)(cs:List Cd)(bl:List Int)(lo:List Bool)(k:Nat):Bool:=
 lo.getD k false||(L9 (cs.getD k default).o&& !(A0e set (cs.getD k default).o (D4 set cs lo k:Nat) (toF set cs bl lo (cs.getD k default):Nat)))
def rnd(set:Int)(cs:List Cd)(bl:List Int)(lo:List Bool):List Bool:=(List.range cs.length).map (W9 set cs bl lo)
theorem x7(set:Int)(cs:List Cd)(bl:List Int)(lo:List Bool):(rnd set cs bl lo).length=cs.length:=by unfold rnd;simp
theorem A1j(set:Int)(cs:List Cd)(bl:List Int)(lo:List Bool){k:Nat}(h:k<cs.length):(rnd set cs bl lo).getD k false=W9 set cs bl lo k:=by
 unfold rnd;rw[List.getD_eq_getElem?_getD,List.getElem?_map,List.getElem?_range h];rfl
def W8(set:Int)(cs:List Cd)(bl:List Int):Nat→List Bool
 |0=>List.replicate cs.length false
 |k+1=>rnd set cs bl (W8 set cs bl k)
def Relx(set:Int)(cs:List Cd)(bl:List Int)(lo:List Bool):Prop:=(∃k,lo=W8 set cs bl k)∧rnd set cs bl lo=lo
theorem i5{set:Int}{cs:List Cd}{bl:List Int}{k:Nat}(h:rnd set cs bl (W8 set cs bl k)=W8 set cs bl k):∀m,W8 set cs bl (k+m)=W8 set cs bl k
 |0=>rfl
 |m+1=>by
  show rnd set cs bl (W8 set cs bl (k+m))=_
  rw[i5 h m,h]
theorem Relx.one{set:Int}{cs:List Cd}{bl:List Int}{lo lo':List Bool}(h:Relx set cs bl lo)(h':Relx set cs bl lo'):lo=lo':=by
 obtain⟨⟨k,rfl⟩,e⟩:=h;obtain⟨⟨k',rfl⟩,e'⟩:=h';rcases Nat.le_total k k' with hk|hk
 ·obtain⟨m,rfl⟩:=Nat.le.dest hk;exact(i5 e m).symm
 ·obtain⟨m,rfl⟩:=Nat.le.dest hk;exact i5 e' m
theorem A4O(set:Int)(cs:List Cd)(bl:List Int):∀k,(W8 set cs bl k).length=cs.length
 |0=>by simp[W8]
 |k+1=>x7 _ _ _ _
theorem LoOk.round{set:Int}{cs:List Cd}{bl:List Int}{lo:List Bool}(h:LoOk set cs lo):LoOk set cs (rnd set cs bl lo):=by
 intro k hk;have hl:k<cs.length:=by
  rcases Nat.lt_or_ge k cs.length with h|h
  ·exact h
  ·rw[List.getD_eq_getElem?_getD,List.getElem?_eq_none (by rw[x7];exact h)]at hk;cases hk
 rw[A1j _ _ _ _ hl]at hk;unfold W9 at hk;rw[Bool.or_eq_true,Bool.and_eq_true]at hk;rcases hk with hk|⟨hb,hr⟩
 ·exact h k hk
 ·refine⟨hb,fun e0 e1=>?_⟩;subst e0;unfold A0e A0f at hr;rw[e1]at hr;simp at hr
theorem Relx.ok{set:Int}{cs:List Cd}{bl:List Int}{lo:List Bool}(h:Relx set cs bl lo):LoOk set cs lo:=by
 obtain⟨⟨k,rfl⟩,-⟩:=h
 induction k with
 |zero=>
  intro k hk;exfalso;unfold W8 at hk;rw[List.getD_eq_getElem?_getD,List.getElem?_replicate]at hk
  split at hk<;>cases hk
 |succ k ih=>exact ih.round
theorem Relx.fine{set:Int}{cs:List Cd}{bl:List Int}{lo:List Bool}(h:Relx set cs bl lo){k:Nat}(hk:k<cs.length):l9 set cs bl lo k:=by
 intro hb hl;have e:=A1j set cs bl lo hk;rw[h.2,hl]at e;unfold W9 at e;rw[hl,hb]at e;simpa using e.symm
theorem Relx.len{set:Int}{cs:List Cd}{bl:List Int}{lo:List Bool}(h:Relx set cs bl lo):lo.length=cs.length:=by
 obtain⟨⟨k,rfl⟩,-⟩:=h;exact A4O _ _ _ _
def RndTo(set:Int)(cs:List Cd)(bl:List Int)(lo lo1:List Bool)(i:Nat):Prop:=lo1.length=cs.length∧∀k,k<cs.length→lo1.getD k false=if k<i then W9 set cs bl lo k else lo.getD k false
theorem RndTo.begin{set:Int}{cs:List Cd}{bl:List Int}{lo:List Bool}(h:lo.length=cs.length):RndTo set cs bl lo lo 0:=⟨h,fun k _=>(if_neg (Nat.not_lt_zero k)).symm⟩
theorem RndTo.keep{set:Int}{cs:List Cd}{bl:List Int}{lo lo1:List Bool}{i:Nat}(h:RndTo set cs bl lo lo1 i)(hi:i<cs.length)(he:W9 set cs bl lo i=lo.getD i false):RndTo set cs bl lo lo1 (i+1):=by
 refine⟨h.1,fun k hk=>?_⟩;rw[h.2 k hk];by_cases e:k=i
 ·subst e;rw[if_neg (Nat.lt_irrefl _),if_pos (Nat.lt_succ_self _),he]
 ·by_cases hl:k<i
  ·rw[if_pos hl,if_pos (by omega)]
  ·rw[if_neg hl,if_neg (by omega)]
theorem RndTo.put{set:Int}{cs:List Cd}{bl:List Int}{lo lo1:List Bool}{i:Nat}(h:RndTo set cs bl lo lo1 i)(hi:i<cs.length)(he:W9 set cs bl lo i=true):RndTo set cs bl lo (lo1.set i true) (i+1):=by
 refine⟨by rw[List.length_set];exact h.1,fun k hk=>?_⟩;by_cases e:k=i
 ·subst e;rw[if_pos (Nat.lt_succ_self _),he,List.getD_eq_getElem?_getD,List.getElem?_set_self (by rw[h.1];exact hk)];rfl
 ·rw[List.getD_eq_getElem?_getD,List.getElem?_set_ne (Ne.symm e),←List.getD_eq_getElem?_getD,h.2 k hk];by_cases hl:k<i
  ·rw[if_pos hl,if_pos (by omega)]
  ·rw[if_neg hl,if_neg (by omega)]
theorem RndTo.done{set:Int}{cs:List Cd}{bl:List Int}{lo lo1:List Bool}(h:RndTo set cs bl lo lo1 cs.length):lo1=rnd set cs bl lo:=by
 apply List.ext_getElem (by rw[h.1,x7]);intro k h1 h2;have hk:k<cs.length:=by rw[←h.1];exact h1
 have e:=h.2 k hk;rw[if_pos hk,←A1j _ _ _ _ hk,List.getD_eq_getElem?_getD,List.getD_eq_getElem?_getD,List.getElem?_eq_getElem h1,List.getElem?_eq_getElem h2]at e;exact e
theorem q9:∀(lo:List Bool) (j:Nat),j<lo.length→lo.getD j false=false→(lo.set j true).count false+1=lo.count false
 |[],j,h,_=>absurd h (Nat.not_lt_zero _)
 |b::r,0,_,hb=>by
  have:b=false:=hb;subst this;simp
 |b::r,j+1,h,hb=>by
  have ih:=q9 r j (by simpa using h) (by simpa using hb);rw[List.set_cons_succ,List.count_cons,List.count_cons];omega
end Go.Proofs.YtajljbmeaeeknaaGreat
