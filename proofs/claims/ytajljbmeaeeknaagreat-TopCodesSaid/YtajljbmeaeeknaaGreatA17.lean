/- -/
import Derived.RegionTactic
import Derived.BigRegion
import Derived.ChangeAlike
import Derived.Test.YtajljbmeaeeknaaGreatA16
open Go.Proofs.Tryz
open Go.Lib (hid)
set_option maxHeartbeats 1000000
set_option maxRecDepth 100000
namespace Go.Proofs.YtajljbmeaeeknaaGreat
open Go.RowKit
set_option linter.unusedVariables false
set_option linter.unusedSimpArgs false
def Box5(w:World)(b:Nat)(o d s z i:Int):Prop:=
 w.heap[b]? =some (.cells #[.int .i64 o,.int .i64 d,.int .i64 s,.int .i64 z,.int .i64 i] 89)
theorem Box5.cells{w:World}{b:Nat}{o d s z i:Int}(h:Box5 w b o d s z i):(w.cell? ⟨b,0,none⟩=some (.int .i64 o)∧w.cell? ⟨b,1,none⟩=some (.int .i64 d)∧w.cell? ⟨b,2,none⟩=some (.int .i64 s)∧w.cell? ⟨b,3,none⟩=some (.int .i64 z)∧w.cell? ⟨b,4,none⟩=some (.int .i64 i))∧∀j,w.frozen? ⟨b,j,none⟩=false:=by
 unfold Box5 at h;refine⟨⟨?_,?_,?_,?_,?_⟩,fun j=>?_⟩<;>simp[World.cell?,World.frozen?,h]
theorem Box5.new(w:World)(o d s z i:Int):Box5 (w.alloc (.cells #[.int .i64 o,.int .i64 d,.int .i64 s,.int .i64 z,.int .i64 i] 89)) w.heap.size o d s z i:=by
 unfold Box5;rw[show(w.alloc (.cells #[.int .i64 o,.int .i64 d,.int .i64 s,.int .i64 z,.int .i64 i] 89)).heap=w.heap.push (.cells #[.int .i64 o,.int .i64 d,.int .i64 s,.int .i64 z,.int .i64 i] 89)from rfl];simp
theorem Box5.but{w w':World}{b B:Nat}{o d s z i:Int}(h:Box5 w b o d s z i)(hb:But B w w')(hn:b≠B):Box5 w' b o d s z i:=(hb.block b ((Array.getElem?_eq_some_iff.1 h).1) hn).trans h
theorem Box5.lt{w:World}{b:Nat}{o d s z i:Int}(h:Box5 w b o d s z i):b<w.heap.size:=(Array.getElem?_eq_some_iff.1 h).1
theorem Rdr.drew{w:World}{B:Nat}{v:Value}{m n:Nat}(h:Rdr w B v m n):Rdr w.drew B v m n:=h
theorem A4h(v:Value)(B n:Nat)(l:List Int)(c o d s z i:Int)(w:World)(h:RdL w B v l n)(hby:Byt l)(hm:(l.getD n 0 / 64==2)=false):Calls prog 125 #[.pointer (some ⟨B,0,none⟩),.int .u8 c,.agg #[.int .i64 o,.int .i64 d,.int .i64 s,.int .i64 z,.int .i64 i]] w fun e w'=>e= .returned (.agg #[.int .i64 0,.int .i64 (mF (l.getD n 0)),.int .i64 (rF (l.getD n 0)),.int .i64 z,.int .i64 i])∧RdL w' B v l (n+1)∧But B w w':=by
 have hlt:=h.r.lt;have HL:=hid h;have b1:=(But.refl B w).alloc (.cells #[.int .i64 o,.int .i64 d,.int .i64 s,.int .i64 z,.int .i64 i] 89);have b2:=b1.alloc (.cells #[.int .i64 0,.int .i64 0,.int .i64 0,.int .i64 0,.int .i64 0] 89);have HB2:=hid b2;have hr2:RdL _ B v l n:=(h.stays ((Below.refl _ _).alloc (Nat.le_refl _) (.cells #[.int .i64 o,.int .i64 d,.int .i64 s,.int .i64 z,.int .i64 i] 89))).stays ((Below.refl _ _).alloc (Nat.le_refl _) (.cells #[.int .i64 0,.int .i64 0,.int .i64 0,.int .i64 0,.int .i64 0] 89));have x1:=hid ((Box5.new w o d s z i).but ((But.refl B _).alloc (.cells #[.int .i64 0,.int .i64 0,.int .i64 0,.int .i64 0,.int .i64 0] 89)) (by omega));have x2:=hid (Box5.new (w.alloc (.cells #[.int .i64 o,.int .i64 d,.int .i64 s,.int .i64 z,.int .i64 i] 89)) 0 0 0 0 0);have C0:=hid (E3 v B n l _ hr2 (hby n).1 (hby n).2);rw[hm]at C0;clear b1 b2 hr2 h hby hm;generalize rF (l.getD n 0)=r at*
 generalize mF (l.getD n 0)=m at*
 go_enter func125,ntmps125;go_wp2_with((with_reducible refine C0.out.mono ?_);rintro e w1 ⟨rfl,hr1,hb1⟩;have HR1:=hid hr1;have HB1:=hid hb1;have X1:=x1.out.but hb1 (by omega);have X2:=x2.out.but hb1 (by simp;omega);obtain⟨⟨p0,p1,p2,p3,p4⟩,pf⟩:=X1.cells;obtain⟨⟨q0,q1,q2,q3,q4⟩,qf⟩:=X2.cells;have pl:=X1.lt;have ql:=X2.lt;have HX1:=hid X1;have HX2:=hid X2;clear p0 p1 p2 p3 p4 q0 q1 q2 q3 q4;clear hr1 hb1 X1 X2 pf qf)
 have Y1:=HX1.out.but ((But.refl B w1).alloc (.cells #[.int .i64 r,.int .i64 m,.bool false] 209)) (by omega);have Y2:=HX2.out.but ((But.refl B w1).alloc (.cells #[.int .i64 r,.int .i64 m,.bool false] 209)) (by simp;omega);have HB3:=hid ((HB2.out.trans HB1.out).alloc (.cells #[.int .i64 r,.int .i64 m,.bool false] 209));have HR3:=hid (HR1.out.stays ((Below.refl _ _).alloc (Nat.le_refl _) (.cells #[.int .i64 r,.int .i64 m,.bool false] 209)));rw[show(w.alloc (.cells #[.int .i64 o,.int .i64 d,.int .i64 s,.int .i64 z,.int .i64 i] 89)).heap.size=w.heap.size+1 by simp]at Y2;have g0:(w1.alloc (.cells #[.int .i64 r,.int .i64 m,.bool false] 209)).cell? ⟨w1.heap.size,0,none⟩=some (.int .i64 r):=by simp[go_sem]
 have g1:(w1.alloc (.cells #[.int .i64 r,.int .i64 m,.bool false] 209)).cell? ⟨w1.heap.size,1,none⟩=some (.int .i64 m):=by simp[go_sem]
 have ql2:w.heap.size+1<w1.heap.size:=by simpa using ql
 clear ql;generalize w1.alloc (.cells #[.int .i64 r,.int .i64 m,.bool false] 209)=W3 at*
 obtain⟨⟨p0,p1,p2,p3,p4⟩,pf⟩:=Y1.cells;have pf0:=pf 0;have pf1:=pf 1;have pf2:=pf 2;obtain⟨⟨q0,q1,q2,q3,q4⟩,qf⟩:=Y2.cells;have qf0:=qf 0;have qf1:=qf 1;have qf2:=qf 2;have qf3:=qf 3;have qf4:=qf 4;clear pf qf Y1 Y2;have n67:¬w.heap.size+1=w1.heap.size:=by omega
 have n57:¬w.heap.size=w1.heap.size:=by omega
 generalize w1.heap.size=b7 at*
 go_region
 go_wp2_with fail
 have n5:B≠w.heap.size:=by omega
 have n6:B≠w.heap.size+1:=by omega
 have key:∀W',Rdr W' B v l.length (n+1)→But B w W'→RdL W' B v l (n+1)∧But B w W':=fun W' a b=>⟨⟨a,HL.out.l.but b HL.out.off,HL.out.off⟩,b⟩
 refine bodyPost_ret (v:=.agg #[.int .i64 0,.int .i64 m,.int .i64 r,.int .i64 z,.int .i64 i]) (by simp[results,results125,go_sem,q0,q1,q2,q3,q4]) rfl ⟨rfl,key _ ?_ ?_⟩
 ·refine Rdr.drew ?_;refine Rdr.setNew ?_ n6 _ _;refine Rdr.setNew ?_ n6 _ _;refine Rdr.setNew ?_ n6 _ _;refine Rdr.setNew ?_ n6 _ _;refine Rdr.setNew ?_ n6 _ _;refine Rdr.setNew ?_ n5 _ _;refine Rdr.setNew ?_ n5 _ _;refine Rdr.setNew ?_ n5 _ _;exact HR3.out.r
 ·refine But.drew ?_;have e6:w.heap.size≤w.heap.size+1:=by omega
  have e5:w.heap.size≤w.heap.size:=by omega
  refine But.setNew ?_ e6 _ _;refine But.setNew ?_ e6 _ _;refine But.setNew ?_ e6 _ _;refine But.setNew ?_ e6 _ _;refine But.setNew ?_ e6 _ _;refine But.setNew ?_ e5 _ _;refine But.setNew ?_ e5 _ _;refine But.setNew ?_ e5 _ _;exact HB3.out
theorem A3E{p:Prop}(h:p:=by
 repeat(first|with_reducible refine Fin5.drew ?_|with_reducible refine Fin5.set ?_ eP _ _|with_reducible refine Fin5.set ?_ eQ _ _)
 exact HSW3.out.fin
 ):p:=h
theorem Box5.set0{w:World}{b:Nat}{o d s z i:Int}(h:Box5 w b o d s z i)(k:Int):Box5 (w.setCell ⟨b,0,none⟩ (.int .i64 k)) b k d s z i:=by
 unfold Box5;simp only[World.setCell,Array.getElem?_modify,show w.heap[b]? =_ from h];simp
theorem Box5.set1{w:World}{b:Nat}{o d s z i:Int}(h:Box5 w b o d s z i)(k:Int):Box5 (w.setCell ⟨b,1,none⟩ (.int .i64 k)) b o k s z i:=by
 unfold Box5;simp only[World.setCell,Array.getElem?_modify,show w.heap[b]? =_ from h];simp
theorem Box5.set2{w:World}{b:Nat}{o d s z i:Int}(h:Box5 w b o d s z i)(k:Int):Box5 (w.setCell ⟨b,2,none⟩ (.int .i64 k)) b o d k z i:=by
 unfold Box5;simp only[World.setCell,Array.getElem?_modify,show w.heap[b]? =_ from h];simp
theorem Box5.set3{w:World}{b:Nat}{o d s z i:Int}(h:Box5 w b o d s z i)(k:Int):Box5 (w.setCell ⟨b,3,none⟩ (.int .i64 k)) b o d s k i:=by
 unfold Box5;simp only[World.setCell,Array.getElem?_modify,show w.heap[b]? =_ from h];simp
theorem Box5.set4{w:World}{b:Nat}{o d s z i:Int}(h:Box5 w b o d s z i)(k:Int):Box5 (w.setCell ⟨b,4,none⟩ (.int .i64 k)) b o d s z k:=by
 unfold Box5;simp only[World.setCell,Array.getElem?_modify,show w.heap[b]? =_ from h];simp
theorem Box5.setNe{w:World}{b c:Nat}{o d s z i:Int}(h:Box5 w b o d s z i)(hne:b≠c)(j:Nat)(u:Value):Box5 (w.setCell ⟨c,j,none⟩ u) b o d s z i:=(Below.heap_setCell w ⟨c,j,none⟩ u b hne).trans h
structure Stt(w0:World)(B:Nat)(v:Value)(l:List Int)(P Q:Nat)(o d s z i:Int)(n:Nat)(W:World):Prop where
 l0:Ints .u8 w0 v l
 off:Off B v
 r:Rdr W B v l.length n
 b:But B w0 W
 x:Box5 W P o d s z i
 q:Box5 W Q 0 0 0 0 0
 bw:B<w0.heap.size
 pw:w0.heap.size≤P
 qw:w0.heap.size≤Q
 pq:P≠Q
namespace Stt
variable {w0 W W' : World} {B P Q n n' : Nat} {v : Value} {l : List Int} {o d s z i : Int}
theorem rd(h:Stt w0 B v l P Q o d s z i n W):RdL W B v l n:=⟨h.r,h.l0.but h.b h.off,h.off⟩
theorem step(h:Stt w0 B v l P Q o d s z i n W)(hr:RdL W' B v l n')(hb:But B W W'):Stt w0 B v l P Q o d s z i n' W':=
 ⟨h.l0,h.off,hr.r,h.b.trans hb,h.x.but hb (by have:=h.bw;have:=h.pw;omega),h.q.but hb (by have:=h.bw;have:=h.qw;omega),h.bw,h.pw,h.qw,h.pq⟩
theorem start{w:World}(h:RdL w B v l n)(o d s z i:Int):Stt w B v l w.heap.size (w.heap.size+1) o d s z i n ((w.alloc (.cells #[.int .i64 o,.int .i64 d,.int .i64 s,.int .i64 z,.int .i64 i] 89)).alloc (.cells #[.int .i64 0,.int .i64 0,.int .i64 0,.int .i64 0,.int .i64 0] 89)):=by
 have hlt:=h.r.lt;refine⟨h.l,h.off,((h.stays ((Below.refl _ _).alloc (Nat.le_refl _) _)).stays ((Below.refl _ _).alloc (Nat.le_refl _) _)).r,((But.refl B w).alloc _).alloc _,(Box5.new w o d s z i).but ((But.refl B _).alloc _) (by omega),?_,hlt,Nat.le_refl _,Nat.le_succ _,by omega⟩;have:=Box5.new (w.alloc (.cells #[.int .i64 o,.int .i64 d,.int .i64 s,.int .i64 z,.int .i64 i] 89)) 0 0 0 0 0;rw[show(w.alloc (.cells #[.int .i64 o,.int .i64 d,.int .i64 s,.int .i64 z,.int .i64 i] 89)).heap.size=w.heap.size+1 by simp]at this;exact this
theorem alloc(h:Stt w0 B v l P Q o d s z i n W)(ob:Obj):Stt w0 B v l P Q o d s z i n (W.alloc ob):=h.step (h.rd.stays ((Below.refl _ _).alloc (Nat.le_refl _) ob)) ((But.refl B W).alloc ob)
theorem drew(h:Stt w0 B v l P Q o d s z i n W):Stt w0 B v l P Q o d s z i n W.drew:=⟨h.l0,h.off,h.r,h.b.drew,h.x,h.q,h.bw,h.pw,h.qw,h.pq⟩
theorem setP(h:Stt w0 B v l P Q o d s z i n W){j:Nat}{u:Value}{o' d' s' z' i':Int}(hx:Box5 (W.setCell ⟨P,j,none⟩ u) P o' d' s' z' i'):Stt w0 B v l P Q o' d' s' z' i' n (W.setCell ⟨P,j,none⟩ u):=
 ⟨h.l0,h.off,h.r.setNew (by have:=h.bw;have:=h.pw;omega) j u,h.b.setNew h.pw j u,hx,h.q.setNe h.pq.symm j u,h.bw,h.pw,h.qw,h.pq⟩
theorem set0(h:Stt w0 B v l P Q o d s z i n W)(k:Int):Stt w0 B v l P Q k d s z i n (W.setCell ⟨P,0,none⟩ (.int .i64 k)):=h.setP (h.x.set0 k)
theorem set1(h:Stt w0 B v l P Q o d s z i n W)(k:Int):Stt w0 B v l P Q o k s z i n (W.setCell ⟨P,1,none⟩ (.int .i64 k)):=h.setP (h.x.set1 k)
theorem set2(h:Stt w0 B v l P Q o d s z i n W)(k:Int):Stt w0 B v l P Q o d k z i n (W.setCell ⟨P,2,none⟩ (.int .i64 k)):=h.setP (h.x.set2 k)
theorem set3(h:Stt w0 B v l P Q o d s z i n W)(k:Int):Stt w0 B v l P Q o d s k i n (W.setCell ⟨P,3,none⟩ (.int .i64 k)):=h.setP (h.x.set3 k)
theorem set4(h:Stt w0 B v l P Q o d s z i n W)(k:Int):Stt w0 B v l P Q o d s z k n (W.setCell ⟨P,4,none⟩ (.int .i64 k)):=h.setP (h.x.set4 k)
theorem facts(h:Stt w0 B v l P Q o d s z i n W):W.cell? ⟨P,0,none⟩=some (.int .i64 o)∧W.cell? ⟨P,1,none⟩=some (.int .i64 d)∧W.cell? ⟨P,2,none⟩=some (.int .i64 s)∧W.cell? ⟨P,3,none⟩=some (.int .i64 z)∧W.cell? ⟨P,4,none⟩=some (.int .i64 i)∧
  W.frozen? ⟨P,0,none⟩=false∧W.frozen? ⟨P,1,none⟩=false∧W.frozen? ⟨P,2,none⟩=false∧W.frozen? ⟨P,3,none⟩=false∧W.frozen? ⟨P,4,none⟩=false∧
  W.cell? ⟨Q,0,none⟩=some (.int .i64 0)∧W.cell? ⟨Q,1,none⟩=some (.int .i64 0)∧W.cell? ⟨Q,2,none⟩=some (.int .i64 0)∧W.cell? ⟨Q,3,none⟩=some (.int .i64 0)∧W.cell? ⟨Q,4,none⟩=some (.int .i64 0)∧
  W.frozen? ⟨Q,0,none⟩=false∧W.frozen? ⟨Q,1,none⟩=false∧W.frozen? ⟨Q,2,none⟩=false∧W.frozen? ⟨Q,3,none⟩=false∧W.frozen? ⟨Q,4,none⟩=false:=
 ⟨h.x.cells.1.1,h.x.cells.1.2.1,h.x.cells.1.2.2.1,h.x.cells.1.2.2.2.1,h.x.cells.1.2.2.2.2,h.x.cells.2 0,h.x.cells.2 1,h.x.cells.2 2,h.x.cells.2 3,h.x.cells.2 4,
  h.q.cells.1.1,h.q.cells.1.2.1,h.q.cells.1.2.2.1,h.q.cells.1.2.2.2.1,h.q.cells.1.2.2.2.2,h.q.cells.2 0,h.q.cells.2 1,h.q.cells.2 2,h.q.cells.2 3,h.q.cells.2 4⟩
end Stt
structure Fin5(w0:World)(B:Nat)(v:Value)(m n:Nat)(W:World):Prop where
 r:Rdr W B v m n
 b:But B w0 W
 bw:B<w0.heap.size
theorem Stt.fin{w0 W:World}{B P Q n:Nat}{v:Value}{l:List Int}{o d s z i:Int}(h:Stt w0 B v l P Q o d s z i n W):Fin5 w0 B v l.length n W:=⟨h.r,h.b,h.bw⟩
theorem Fin5.drew{w0 W:World}{B m n:Nat}{v:Value}(h:Fin5 w0 B v m n W):Fin5 w0 B v m n W.drew:=⟨h.r,h.b.drew,h.bw⟩
theorem Fin5.set{w0 W:World}{B m n b:Nat}{v:Value}(h:Fin5 w0 B v m n W)(hb:w0.heap.size≤b)(j:Nat)(u:Value):Fin5 w0 B v m n (W.setCell ⟨b,j,none⟩ u):=
 ⟨h.r.setNew (by have:=h.bw;omega) j u,h.b.setNew hb j u,h.bw⟩
theorem Fin5.out{w0 W:World}{B n:Nat}{v:Value}{l:List Int}(hl:Ints .u8 w0 v l)(ho:Off B v)(h:Fin5 w0 B v l.length n W):RdL W B v l n∧But B w0 W:=⟨⟨h.r,hl.but h.b ho,ho⟩,h.b⟩
theorem Stt.call{w0 W:World}{B P Q n n':Nat}{v:Value}{l:List Int}{o d s z i:Int}(h:Stt w0 B v l P Q o d s z i n W){f:FuncId}{args:Array Value}{u:Value}(hc:Calls prog f args W fun e w'=>e= .returned u∧RdL w' B v l n'∧But B W w'):Calls prog f args W fun e w'=>e= .returned u∧Stt w0 B v l P Q o d s z i n' w'∧But B W w':=
 hc.mono fun e w' ⟨a,b,c⟩=>⟨a,h.step b c,c⟩
theorem A4i(v:Value)(B n:Nat)(l:List Int)(o d s z i:Int)(w:World)(h:RdL w B v l n)(hby:Byt l)(hm:(l.getD n 0 / 64==2)=true):Calls prog 125 #[.pointer (some ⟨B,0,none⟩),.int .u8 139,(.agg #[.int .i64 o,.int .i64 d,.int .i64 s,.int .i64 z,.int .i64 i])] w fun e w'=>e= .returned (.agg #[.int .i64 2,.int .i64 (rF (l.getD n 0)),.int .i64 (mF (l.getD n 0)),.int .i64 z,.int .i64 (G2 (rdB (l.drop (n+1)) 4))])∧RdL w' B v l (n+5)∧But B w w':=by
 have HL:=hid h;have HBY:=hid hby;have S0:=Stt.start h o d s z i;have CF:=hid (S0.call (E3 v B n l _ S0.rd (hby n).1 (hby n).2));rw[hm]at CF;obtain⟨k,hk⟩:∃k,G2 (rdB (l.drop (n+1)) 4)=k:=⟨_,rfl⟩
 have CW:Hid (∀(o d s z i:Int) (W:World),Stt w B v l w.heap.size (w.heap.size+1) o d s z i (n+1) W→Calls prog 128 #[.pointer (some ⟨B,0,none⟩)] W fun e w'=>e= .returned (.int .i64 k)∧Stt w B v l w.heap.size (w.heap.size+1) o d s z i (n+1+4) w'∧But B W w'):=hid fun o d s z i W S=>by rw[←hk];exact S.call (Q8 v B (n+1) l W S.rd HBY.out)
 have HK:=hid hk;clear hk;clear h hby hm S0;generalize rF (l.getD n 0)=r at*
 generalize mF (l.getD n 0)=m at*
 go_enter func125,ntmps125;go_wp2_with(first|((with_reducible refine(CF.out).mono ?_);rintro e w1 ⟨rfl,S1,bS1⟩;have HS1:=hid S1;clear S1)|((with_reducible refine(CW.out _ _ _ _ _ _ (HS1.out.alloc _)).mono ?_);rintro e w2 ⟨rfl,S2,bS2⟩;have HS2:=hid S2;clear S2;obtain⟨p0,p1,p2,p3,p4,pf0,pf1,pf2,pf3,pf4,q0,q1,q2,q3,q4,qf0,qf1,qf2,qf3,qf4⟩:=HS2.out.facts))
 have pl:=HS1.out.x.lt;have ql:=HS1.out.q.lt;have rl:=HS1.out.r.lt;have n57:¬w.heap.size=w1.heap.size:=by omega
 have n67:¬w.heap.size+1=w1.heap.size:=by omega
 have nB7:w1.heap.size≠B:=by omega
 clear pl ql rl;have g0:=L5 (B:=w.heap.size) (j:=4) (u:=.int .i64 k) (bS2.cell nB7 (show(w1.alloc (.cells #[.int .i64 r,.int .i64 m,.bool true] 209)).cell? ⟨w1.heap.size,0,none⟩=some (.int .i64 r)by simp[go_sem])) (by omega);have g1:=L5 (B:=w.heap.size) (j:=4) (u:=.int .i64 k) (bS2.cell nB7 (show(w1.alloc (.cells #[.int .i64 r,.int .i64 m,.bool true] 209)).cell? ⟨w1.heap.size,1,none⟩=some (.int .i64 m)by simp[go_sem])) (by omega);have g2:=L5 (B:=w.heap.size) (j:=4) (u:=.int .i64 k) (bS2.cell nB7 (show(w1.alloc (.cells #[.int .i64 r,.int .i64 m,.bool true] 209)).cell? ⟨w1.heap.size,2,none⟩=some (.bool true)by simp[go_sem])) (by omega);clear bS1 bS2;clear p0 p1 p2 p3 p4 pf0 pf1 pf2 pf3 pf4 q0 q1 q2 q3 q4 qf0 qf1 qf2 qf3 qf4;have SX:=HS2.out.set4 k;have HSW3:=hid SX;clear SX;generalize w2.setCell ⟨w.heap.size,4,none⟩ (.int .i64 k)=W3 at*
 obtain⟨p0,p1,p2,p3,p4,pf0,pf1,pf2,pf3,pf4,q0,q1,q2,q3,q4,qf0,qf1,qf2,qf3,qf4⟩:=HSW3.out.facts;generalize w1.heap.size=b7 at*
 go_region
 go_wp2_with fail
 have eP:w.heap.size≤w.heap.size:=HSW3.out.pw;have eQ:w.heap.size≤(w.heap.size+1):=HSW3.out.qw;refine bodyPost_ret (v:=(.agg #[.int .i64 2,.int .i64 r,.int .i64 m,.int .i64 z,.int .i64 k])) (by simp[results,results125,go_sem,p0,p1,p2,p3,p4,q0,q1,q2,q3,q4]) rfl ⟨congrArg (fun k=>Ending.returned (.agg #[.int .i64 2,.int .i64 r,.int .i64 m,.int .i64 z,.int .i64 k])) HK.out.symm,Fin5.out HL.out.l HL.out.off ?_⟩;exact A3E
theorem A4j(v:Value)(B n:Nat)(l:List Int)(o d s z i:Int)(w:World)(h:RdL w B v l n)(hby:Byt l)(hm:(l.getD n 0 / 64==2)=true):Calls prog 125 #[.pointer (some ⟨B,0,none⟩),.int .u8 137,(.agg #[.int .i64 o,.int .i64 d,.int .i64 s,.int .i64 z,.int .i64 i])] w fun e w'=>e= .returned (.agg #[.int .i64 3,.int .i64 (mF (l.getD n 0)),.int .i64 (rF (l.getD n 0)),.int .i64 z,.int .i64 (G2 (rdB (l.drop (n+1)) 4))])∧RdL w' B v l (n+5)∧But B w w':=by
 have HL:=hid h;have HBY:=hid hby;have S0:=Stt.start h o d s z i;have CF:=hid (S0.call (E3 v B n l _ S0.rd (hby n).1 (hby n).2));rw[hm]at CF;obtain⟨k,hk⟩:∃k,G2 (rdB (l.drop (n+1)) 4)=k:=⟨_,rfl⟩
 have CW:Hid (∀(o d s z i:Int) (W:World),Stt w B v l w.heap.size (w.heap.size+1) o d s z i (n+1) W→Calls prog 128 #[.pointer (some ⟨B,0,none⟩)] W fun e w'=>e= .returned (.int .i64 k)∧Stt w B v l w.heap.size (w.heap.size+1) o d s z i (n+1+4) w'∧But B W w'):=hid fun o d s z i W S=>by rw[←hk];exact S.call (Q8 v B (n+1) l W S.rd HBY.out)
 have HK:=hid hk;clear hk;clear h hby hm S0;generalize rF (l.getD n 0)=r at*
 generalize mF (l.getD n 0)=m at*
 go_enter func125,ntmps125;go_wp2_with(first|((with_reducible refine(CF.out).mono ?_);rintro e w1 ⟨rfl,S1,bS1⟩;have HS1:=hid S1;clear S1)|((with_reducible refine(CW.out _ _ _ _ _ _ (HS1.out.alloc _)).mono ?_);rintro e w2 ⟨rfl,S2,bS2⟩;have HS2:=hid S2;clear S2;obtain⟨p0,p1,p2,p3,p4,pf0,pf1,pf2,pf3,pf4,q0,q1,q2,q3,q4,qf0,qf1,qf2,qf3,qf4⟩:=HS2.out.facts))
 have pl:=HS1.out.x.lt;have ql:=HS1.out.q.lt;have rl:=HS1.out.r.lt;have n57:¬w.heap.size=w1.heap.size:=by omega
 have n67:¬w.heap.size+1=w1.heap.size:=by omega
 have nB7:w1.heap.size≠B:=by omega
 clear pl ql rl;have g0:=L5 (B:=w.heap.size) (j:=4) (u:=.int .i64 k) (bS2.cell nB7 (show(w1.alloc (.cells #[.int .i64 r,.int .i64 m,.bool true] 209)).cell? ⟨w1.heap.size,0,none⟩=some (.int .i64 r)by simp[go_sem])) (by omega);have g1:=L5 (B:=w.heap.size) (j:=4) (u:=.int .i64 k) (bS2.cell nB7 (show(w1.alloc (.cells #[.int .i64 r,.int .i64 m,.bool true] 209)).cell? ⟨w1.heap.size,1,none⟩=some (.int .i64 m)by simp[go_sem])) (by omega);have g2:=L5 (B:=w.heap.size) (j:=4) (u:=.int .i64 k) (bS2.cell nB7 (show(w1.alloc (.cells #[.int .i64 r,.int .i64 m,.bool true] 209)).cell? ⟨w1.heap.size,2,none⟩=some (.bool true)by simp[go_sem])) (by omega);clear bS1 bS2;clear p0 p1 p2 p3 p4 pf0 pf1 pf2 pf3 pf4 q0 q1 q2 q3 q4 qf0 qf1 qf2 qf3 qf4;have SX:=HS2.out.set4 k;have HSW3:=hid SX;clear SX;generalize w2.setCell ⟨w.heap.size,4,none⟩ (.int .i64 k)=W3 at*
 obtain⟨p0,p1,p2,p3,p4,pf0,pf1,pf2,pf3,pf4,q0,q1,q2,q3,q4,qf0,qf1,qf2,qf3,qf4⟩:=HSW3.out.facts;generalize w1.heap.size=b7 at*
 go_region
 go_wp2_with fail
 have eP:w.heap.size≤w.heap.size:=HSW3.out.pw;have eQ:w.heap.size≤(w.heap.size+1):=HSW3.out.qw;refine bodyPost_ret (v:=(.agg #[.int .i64 3,.int .i64 m,.int .i64 r,.int .i64 z,.int .i64 k])) (by simp[results,results125,go_sem,p0,p1,p2,p3,p4,q0,q1,q2,q3,q4]) rfl ⟨congrArg (fun k=>Ending.returned (.agg #[.int .i64 3,.int .i64 m,.int .i64 r,.int .i64 z,.int .i64 k])) HK.out.symm,Fin5.out HL.out.l HL.out.off ?_⟩;exact A3E
theorem A4k(v:Value)(B n:Nat)(l:List Int)(o d s z i:Int)(w:World)(h:RdL w B v l n)(hby:Byt l)(hm:(l.getD n 0 / 64==2)=true):Calls prog 125 #[.pointer (some ⟨B,0,none⟩),.int .u8 136,(.agg #[.int .i64 o,.int .i64 d,.int .i64 s,.int .i64 z,.int .i64 i])] w fun e w'=>e= .returned (.agg #[.int .i64 6,.int .i64 (mF (l.getD n 0)),.int .i64 (rF (l.getD n 0)),.int .i64 z,.int .i64 (G2 (rdB (l.drop (n+1)) 4))])∧RdL w' B v l (n+5)∧But B w w':=by
 have HL:=hid h;have HBY:=hid hby;have S0:=Stt.start h o d s z i;have CF:=hid (S0.call (E3 v B n l _ S0.rd (hby n).1 (hby n).2));rw[hm]at CF;obtain⟨k,hk⟩:∃k,G2 (rdB (l.drop (n+1)) 4)=k:=⟨_,rfl⟩
 have CW:Hid (∀(o d s z i:Int) (W:World),Stt w B v l w.heap.size (w.heap.size+1) o d s z i (n+1) W→Calls prog 128 #[.pointer (some ⟨B,0,none⟩)] W fun e w'=>e= .returned (.int .i64 k)∧Stt w B v l w.heap.size (w.heap.size+1) o d s z i (n+1+4) w'∧But B W w'):=hid fun o d s z i W S=>by rw[←hk];exact S.call (Q8 v B (n+1) l W S.rd HBY.out)
 have HK:=hid hk;clear hk;clear h hby hm S0;generalize rF (l.getD n 0)=r at*
 generalize mF (l.getD n 0)=m at*
 go_enter func125,ntmps125;go_wp2_with(first|((with_reducible refine(CF.out).mono ?_);rintro e w1 ⟨rfl,S1,bS1⟩;have HS1:=hid S1;clear S1)|((with_reducible refine(CW.out _ _ _ _ _ _ (HS1.out.alloc _)).mono ?_);rintro e w2 ⟨rfl,S2,bS2⟩;have HS2:=hid S2;clear S2;obtain⟨p0,p1,p2,p3,p4,pf0,pf1,pf2,pf3,pf4,q0,q1,q2,q3,q4,qf0,qf1,qf2,qf3,qf4⟩:=HS2.out.facts))
 have pl:=HS1.out.x.lt;have ql:=HS1.out.q.lt;have rl:=HS1.out.r.lt;have n57:¬w.heap.size=w1.heap.size:=by omega
 have n67:¬w.heap.size+1=w1.heap.size:=by omega
 have nB7:w1.heap.size≠B:=by omega
 clear pl ql rl;have g0:=L5 (B:=w.heap.size) (j:=4) (u:=.int .i64 k) (bS2.cell nB7 (show(w1.alloc (.cells #[.int .i64 r,.int .i64 m,.bool true] 209)).cell? ⟨w1.heap.size,0,none⟩=some (.int .i64 r)by simp[go_sem])) (by omega);have g1:=L5 (B:=w.heap.size) (j:=4) (u:=.int .i64 k) (bS2.cell nB7 (show(w1.alloc (.cells #[.int .i64 r,.int .i64 m,.bool true] 209)).cell? ⟨w1.heap.size,1,none⟩=some (.int .i64 m)by simp[go_sem])) (by omega);have g2:=L5 (B:=w.heap.size) (j:=4) (u:=.int .i64 k) (bS2.cell nB7 (show(w1.alloc (.cells #[.int .i64 r,.int .i64 m,.bool true] 209)).cell? ⟨w1.heap.size,2,none⟩=some (.bool true)by simp[go_sem])) (by omega);clear bS1 bS2;clear p0 p1 p2 p3 p4 pf0 pf1 pf2 pf3 pf4 q0 q1 q2 q3 q4 qf0 qf1 qf2 qf3 qf4;have SX:=HS2.out.set4 k;have HSW3:=hid SX;clear SX;generalize w2.setCell ⟨w.heap.size,4,none⟩ (.int .i64 k)=W3 at*
 obtain⟨p0,p1,p2,p3,p4,pf0,pf1,pf2,pf3,pf4,q0,q1,q2,q3,q4,qf0,qf1,qf2,qf3,qf4⟩:=HSW3.out.facts;generalize w1.heap.size=b7 at*
 go_region
 go_wp2_with fail
 have eP:w.heap.size≤w.heap.size:=HSW3.out.pw;have eQ:w.heap.size≤(w.heap.size+1):=HSW3.out.qw;refine bodyPost_ret (v:=(.agg #[.int .i64 6,.int .i64 m,.int .i64 r,.int .i64 z,.int .i64 k])) (by simp[results,results125,go_sem,p0,p1,p2,p3,p4,q0,q1,q2,q3,q4]) rfl ⟨congrArg (fun k=>Ending.returned (.agg #[.int .i64 6,.int .i64 m,.int .i64 r,.int .i64 z,.int .i64 k])) HK.out.symm,Fin5.out HL.out.l HL.out.off ?_⟩;exact A3E
end Go.Proofs.YtajljbmeaeeknaaGreat
