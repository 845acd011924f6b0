/- -/
import Derived.Deep.MidRow
import Derived.Laws.CopyOwn
import Derived.Laws.ResultCell
import Derived.Laws.StructEq
import Derived.ChangeKeysEq
import Derived.Deep.Cut
import Derived.Deep.QuietTactic
import Derived.BigQuiet
import Derived.Outline
import Derived.Test.YtajljbmeaeeknaaGreatS1
open Go.Proofs.Tryz
open Go.Lib (hid)
set_option maxRecDepth 100000
namespace Go.Proofs.YtajljbmeaeeknaaGreat
open Go.RowKit Go.Maps
set_option linter.unusedVariables false
set_option linter.unusedSimpArgs false
theorem A9B{p:Prop}(h:p:=by
 by_cases hlt:j<bs.length
 ·obtain⟨b,q,c,u,ua,uc,e',hc,hb,x0,rfl,-⟩:=(HV.out.stays BB.out).at hlt;cases e';have hlt':(j:Int)<bs.length:=Int.ofNat_lt.2 hlt;have hs1:=O5 hlt;have hs2:=T9 (bs:=bs) (j+1);have hj1:IntKind.i64.wrap ((j:Int)+1)=((j+1:Nat):Int):=by rw[IntWalk.i64_left];exact IntWalk.wrap64_in _ (by omega)
  have hn1:IntKind.i64.wrap ((toC (bs.take j):Int)+((bs.getD j []).length:Int))=(toC (bs.take j):Int)+((bs.getD j []).length:Int):=by rw[IntWalk.i64_left];exact IntWalk.wrap64_in _ (by omega)
  have HS1:=hid hs1;clear hs1 hs2;generalize toC (bs.take j)=n0 at*
  generalize(bs.getD j []).length=ln at*
  go_wp2_with fail
  go_roundw
  case rel=>exact⟨j+1,by omega,by go_num,by rw[HS1.out];go_num,trivial⟩
  case measure=>simp[intOf];omega
 ·obtain rfl:j=bs.length:=by omega
  have hd:decide ((bs.length:Int)<bs.length)=false:=decide_eq_false (by omega);rw[List.take_length];go_wp2_with fail
  go_ret;exact⟨rfl,BB.out⟩
 ):p:=h
def A2b(w:World)(b o:Nat)(x:Cd):Prop:=
 w.cell? ⟨b,o,none⟩=some (.int .i64 x.o)∧w.cell? ⟨b,o+1,none⟩=some (.int .i64 x.d)∧w.cell? ⟨b,o+2,none⟩=some (.int .i64 x.a)∧w.cell? ⟨b,o+3,none⟩=some (.int .i64 x.b)∧w.cell? ⟨b,o+4,none⟩=some (.int .u32 x.i)∧w.cell? ⟨b,o+5,none⟩=some (.int .i64 x.t)
def Cds(w:World)(v:Value)(xs:List Cd):Prop:=Slc w v xs.length 6 fun i b o=>A2b w b o (xs.getD i default)
theorem Cds.stays{w w':World}{v:Value}{xs:List Cd}(h:Cds w v xs)(hb:Below w.heap.size w w'):Cds w' v xs:=
 Slc.stays h hb fun _ _ _ hlt hc=>⟨A7 hb hlt hc.1,A7 hb hlt hc.2.1,A7 hb hlt hc.2.2.1,A7 hb hlt hc.2.2.2.1,A7 hb hlt hc.2.2.2.2.1,A7 hb hlt hc.2.2.2.2.2⟩
theorem Cds.shape{w:World}{v:Value}{xs:List Cd}(h:Cds w v xs):∃a c,v= .slice a xs.length c∧xs.length≤c∧xs.length≤140737488351232:=by
 obtain⟨a,c,e,h1,h2,_⟩:=h;exact⟨a,c,e,h1,h2.1⟩
theorem Cds.at{w:World}{v:Value}{xs:List Cd}(h:Cds w v xs){j:Nat}(hj:j<xs.length):∃b q c,v= .slice (some ⟨b,q,none⟩) xs.length c∧xs.length≤c∧b<w.heap.size∧A2b w b (q+j*6) (xs.getD j default):=by
 obtain⟨a,c,e,h1,h2,h3,h4⟩:=h;obtain⟨b,q,rfl,h5,h6⟩:=h4 j hj;exact⟨b,q,c,e,h1,h5,h6⟩
def Bls(w:World)(v:Value)(bs:List (List Cd)):Prop:=Slc w v bs.length 1 fun i b o=>∃u,w.cell? ⟨b,o,none⟩=some u∧Cds w u (bs.getD i [])
theorem Bls.stays{w w':World}{v:Value}{bs:List (List Cd)}(h:Bls w v bs)(hb:Below w.heap.size w w'):Bls w' v bs:=
 Slc.stays h hb fun _ _ _ hlt ⟨u,hc,hu⟩=>⟨u,A7 hb hlt hc,hu.stays hb⟩
theorem Bls.shape{w:World}{v:Value}{bs:List (List Cd)}(h:Bls w v bs):∃a c,v= .slice a bs.length c∧bs.length≤c∧bs.length≤140737488351232:=by
 obtain⟨a,c,e,h1,h2,_⟩:=h;exact⟨a,c,e,h1,h2.1⟩
theorem Bls.at{w:World}{v:Value}{bs:List (List Cd)}(h:Bls w v bs){j:Nat}(hj:j<bs.length):∃b q c u ua uc,v= .slice (some ⟨b,q,none⟩) bs.length c∧bs.length≤c∧b<w.heap.size∧w.cell? ⟨b,q+j,none⟩=some u∧u= .slice ua (bs.getD j []).length uc∧Cds w u (bs.getD j []):=by
 obtain⟨a,c,e,h1,h2,h3,h4⟩:=h;obtain⟨b,q,rfl,h5,u,h6,h7⟩:=h4 j hj;obtain⟨ua,uc,e2,-,-⟩:=h7.shape;exact⟨b,q,c,u,ua,uc,e,h1,h5,by rw[Nat.mul_one]at h6;exact h6,e2,h7⟩
def toC(bs:List (List Cd)):Nat:=(bs.map List.length).sum
theorem A2f(a b:List (List Cd)):toC (a++b)=toC a+toC b:=by
 unfold toC
 induction a with
 |nil=>simp
 |cons x t ih=>simp only[List.cons_append,List.map_cons,List.sum_cons,ih];omega
theorem O5{bs:List (List Cd)}{j:Nat}(h:j<bs.length):toC (bs.take (j+1))=toC (bs.take j)+(bs.getD j []).length:=by
 rw[List.take_add_one,List.getElem?_eq_getElem h,List.getD_eq_getElem?_getD,List.getElem?_eq_getElem h,Option.toList_some,A2f];simp[toC]
theorem T9{bs:List (List Cd)}(j:Nat):toC (bs.take j)≤toC bs:=by
 have h:=A2f (bs.take j) (bs.drop j);rw[List.take_append_drop]at h;omega
theorem A8d(regs:Int)(bs:List (List Cd))(v:Value)(w:World)(hv:Bls w v bs)(h0:toC bs≤500)(h1:bs.length≤500):Calls prog 137 #[.agg #[.int .i64 regs,v]] w fun e w'=>e= .returned (.int .i64 (toC bs:Nat))∧Below w.heap.size w w':=by
 have HV:=hid hv;obtain⟨va,vc,rfl,hl1,hl2⟩:=hv.shape;obtain⟨W1,hW1⟩:∃W,w.alloc (.cells #[.int .i64 regs,.slice va bs.length vc] 24)=W:=⟨_,rfl⟩
 have BB:Hid (Since w W1):=by rw[←hW1];exact(Below.refl _ _).alloc (Nat.le_refl _) _
 have p1:W1.cell? ⟨w.heap.size,1,none⟩=some (.slice va bs.length vc):=by rw[←hW1];simp[go_sem]
 have hs:w.heap.size<W1.heap.size:=by rw[←hW1];simp
 have P1:=hid p1;clear hv;go_enter func137,ntmps137;go_wp2_with fail
 clear p1 hW1
 go_loopw[3,9] (fun n i wr=>∃j:Nat,j≤bs.length∧i= .int .i64 j∧n= .int .i64 (toC (bs.take j):Nat)∧wr=W1) (fun _ i _=>bs.length-(intOf i).toNat)
 case atStart=>exact⟨0,Nat.zero_le _,rfl,rfl,rfl⟩
 case round=>
  obtain⟨j,hj,rfl,rfl,rfl⟩:=hrel;have p1:=P1.out;exact A9B
theorem A2r(regs:Int)(bs:List (List Cd))(v:Value)(w:World)(hv:Bls w v bs)(h0:toC bs≤500)(h1:bs.length≤500):Calls prog 40 #[.agg #[.int .i64 regs,v]] w fun e w'=>e= .returned (.int .i64 (toC bs:Nat))∧Below w.heap.size w w':=by
 have HV:=hid hv;obtain⟨va,vc,rfl,hl1,hl2⟩:=hv.shape;obtain⟨W1,hW1⟩:∃W,w.alloc (.cells #[.int .i64 regs,.slice va bs.length vc] 24)=W:=⟨_,rfl⟩
 have BB:Hid (Since w W1):=by rw[←hW1];exact(Below.refl _ _).alloc (Nat.le_refl _) _
 have p1:W1.cell? ⟨w.heap.size,1,none⟩=some (.slice va bs.length vc):=by rw[←hW1];simp[go_sem]
 have hs:w.heap.size<W1.heap.size:=by rw[←hW1];simp
 have P1:=hid p1;clear hv;go_enter func40,ntmps40;go_wp2_with fail
 clear p1 hW1
 go_loopw[3,4] (fun n i wr=>∃j:Nat,j≤bs.length∧i= .int .i64 j∧n= .int .i64 (toC (bs.take j):Nat)∧wr=W1) (fun _ i _=>bs.length-(intOf i).toNat)
 case atStart=>exact⟨0,Nat.zero_le _,rfl,rfl,rfl⟩
 case round=>
  obtain⟨j,hj,rfl,rfl,rfl⟩:=hrel;have p1:=P1.out;exact A9B
end Go.Proofs.YtajljbmeaeeknaaGreat
namespace Go.Proofs.YtajljbmeaeeknaaGreat
set_option linter.unusedVariables false
set_option linter.unusedSimpArgs false
structure Rv where
 o:Int
 d:Int
 a:Int
 b:Int
 i:Int
 deriving DecidableEq,Inhabited
def fmR(o:Int):Int:=
 if o<0∨40<o then 10 else if o≤14 then 0 else if o≤20 then 1 else if o≤23 then 2 else if o=24 then 3 else if o≤27 then 4 else if o≤30 then 5 else if o≤36 then 6 else if o=37 then 7 else if o=38 then 8 else 9
def cdR(f:Int):Int:=if f=0 then 51 else if f=1∨f=2 then 19 else if f=3 then 55 else if f=4 then 3 else if f=5 then 35 else if f=6 then 99 else if f=7 then 111 else if f=8 then 103 else 115
def thL:List Int:=[0,0,1,2,3,4,5,5,6,7,0,4,5,6,7,0,2,3,4,6,7,1,5,5,0,4,5,2,0,1,2,0,1,4,5,6,7,0,0]
def thR(o:Int):Int:=if 37≤o then 0 else thL.getD o.toNat 0
def svR(o:Int):Int:=if o=1∨o=7∨o=23 then 32 else if 10≤o∧o≤14 then 1 else 0
def hdR(f:Int):Bool:=decide (f≤4)||(f==7||f==8)
def haR(f:Int):Bool:=decide (f≤2)||(f==4||(f==5||(f==6||f==8)))
def hbR(f:Int):Bool:=f==0||(f==5||f==6)
def fiR(f n:Int):Bool:=
 if f=1∨f=4∨f=5∨f=8 then decide (-2048≤n)&&decide (n≤2047)else if f=2 then decide (0≤n)&&decide (n≤31)else if f=3 then decide (0≤n)&&decide (n<1048576)
 else if f=6 then decide (-4096≤n)&&(decide (n≤4094)&&n%2==0)else if f=7 then decide (-1048576≤n)&&(decide (n≤1048574)&&n%2==0)else n==0
def rgR(h:Bool)(r:Int):Bool:=decide (0≤r)&&(decide (r≤31)&&(h||r==0))
def okR(x:Rv):Bool:=rgR (hdR (fmR x.o)) x.d&&(rgR (haR (fmR x.o)) x.a&&(rgR (hbR (fmR x.o)) x.b&&(decide (fmR x.o≠10)&&fiR (fmR x.o) x.i)))
def asm(c d t a b s:Int):Int:=c+d*128+t*4096+a*32768+b*1048576+s*33554432
theorem A8S{c d t a b s:Int}(hc:0≤c∧c<128)(hd:0≤d∧d<32)(ht:0≤t∧t<8)(ha:0≤a∧a<32)(hb:0≤b∧b<32)(hs:0≤s∧s<128):
  asm c d t a b s%128=c∧asm c d t a b s / 128%32=d∧asm c d t a b s / 4096%8=t∧asm c d t a b s / 32768%32=a∧asm c d t a b s / 1048576%32=b∧asm c d t a b s / 33554432=s∧0≤asm c d t a b s∧asm c d t a b s<4294967296:=by
 unfold asm;omega
def G9(x:Rv):Int:=
 let f:=fmR x.o
 if f=0 then asm 51 x.d (thR x.o) x.a x.b (svR x.o)
 else if f=1∨f=4∨f=8 then asm (cdR f) x.d (thR x.o) x.a (x.i%32) (x.i / 32%128)
 else if f=2 then asm 19 x.d (thR x.o) x.a x.i (svR x.o)
 else if f=3 then asm 55 x.d (x.i%8) (x.i / 8%32) (x.i / 256%32) (x.i / 8192%128)
 else if f=5 then asm 35 (x.i%32) (thR x.o) x.a x.b (x.i / 32%128)
 else if f=6 then asm 99 (x.i / 2048%2+x.i / 2%16*2) (thR x.o) x.a x.b (x.i / 32%64+x.i / 4096%2*64)
 else if f=7 then asm 111 x.d (x.i / 4096%8) (x.i / 32768%32) (x.i / 2048%2+x.i / 2%16*2) (x.i / 32%64+x.i / 1048576%2*64)
 else if x.o=40 then 1048691 else 115
def opR(c t s:Int):Int:=
 if c=55 then 24 else if c=111 then 37 else if c=103 then(if t=0 then 38 else 41)
 else if c=19 then(if t=0 then 15 else if t=2 then 16 else if t=3 then 17 else if t=4 then 18 else if t=6 then 19 else if t=7 then 20 else if t=1 then(if s=0 then 21 else 41)else if s=0 then 22 else if s=32 then 23 else 41)
 else if c=3 then(if t=4 then 25 else if t=5 then 26 else if t=2 then 27 else 41)
 else if c=35 then(if t=0 then 28 else if t=1 then 29 else if t=2 then 30 else 41)
 else if c=99 then(if t=0 then 31 else if t=1 then 32 else if t=4 then 33 else if t=5 then 34 else if t=6 then 35 else if t=7 then 36 else 41)
 else if c=51 then(if s=0 then(if t=0 then 0 else if t=1 then 2 else if t=2 then 3 else if t=3 then 4 else if t=4 then 5 else if t=5 then 6 else if t=6 then 8 else 9)
  else if s=32 then(if t=0 then 1 else if t=5 then 7 else 41)else if s=1 then(if t=0 then 10 else if t=4 then 11 else if t=5 then 12 else if t=6 then 13 else if t=7 then 14 else 41)else 41)
 else 41
def sgR(n m:Int):Int:=if m≤n then n-2*m else n
def imR(f w:Int):Int:=
 let d:=w / 128%32
 let b:=w / 1048576%32
 let s:=w / 33554432
 if f=1∨f=4∨f=8 then sgR (b+s*32) 2048 else if f=2 then b else if f=3 then w / 4096 else if f=5 then sgR (d+s*32) 2048
 else if f=6 then sgR (d / 2*2+s%64*32+d%2*2048+s / 64*4096) 4096
 else if f=7 then sgR (b / 2*2+s%64*32+b%2*2048+w / 4096%256*4096+s / 64*1048576) 1048576 else 0
def fdR(o w:Int):Rv:=⟨o,if hdR (fmR o)then w / 128%32 else 0,if haR (fmR o)then w / 32768%32 else 0,if hbR (fmR o)then w / 1048576%32 else 0,imR (fmR o) w⟩
def A9o(w:Int):Option Rv:=
 if w=115 then some ⟨39,0,0,0,0⟩else if w=1048691 then some ⟨40,0,0,0,0⟩
 else if opR (w%128) (w / 4096%8) (w / 33554432)=41 then none
 else if G9 (fdR (opR (w%128) (w / 4096%8) (w / 33554432)) w)=w then some (fdR (opR (w%128) (w / 4096%8) (w / 33554432)) w)else none
theorem A4m{x:Rv}(h:okR x=true):0≤x.o∧x.o≤40:=by
 unfold okR at h;simp only[Bool.and_eq_true,decide_eq_true_eq]at h;have h1:=h.2.2.2.1;unfold fmR at h1;by_cases e:x.o<0∨40<x.o
 ·rw[if_pos e]at h1;exact absurd rfl h1
 ·omega
theorem A9c{o:Int}(h0:0≤o)(h1:o≤40):∃k:Fin 41,o=((k:Nat):Int):=⟨⟨o.toNat,by omega⟩,by show o=(o.toNat:Int);omega⟩
def A9G(k:Nat):Bool:=
 let o:Int:=k
 let f:=fmR o
 decide (0≤thR o)&&(decide (thR o<8)&&((svR o==0||(svR o==1||svR o==32))&&
 (if f=9 then true else if f=3∨f=7 then opR (cdR f) 0 0==o else if f=0∨f=2 then opR (cdR f) (thR o) (svR o)==o else opR (cdR f) (thR o) 0==o)))
theorem A7V:∀k:Fin 41,A9G k.1=true:=by decide
theorem p8{h:Bool}{r:Int}(g:rgR h r=true):(0≤r∧r<32)∧(h=false→r=0):=by
 unfold rgR at g;simp only[Bool.and_eq_true,Bool.or_eq_true,decide_eq_true_eq,beq_iff_eq]at g;exact⟨by omega,fun e=>by rw[e]at g;simpa using g.2.2⟩
theorem G7(o:Int)(h0:0≤o)(h1:o≤40):(fmR o=0∧o≤14)∨(fmR o=1∧15≤o∧o≤20)∨(fmR o=2∧21≤o∧o≤23)∨(fmR o=3∧o=24)∨(fmR o=4∧25≤o∧o≤27)∨(fmR o=5∧28≤o∧o≤30)∨(fmR o=6∧31≤o∧o≤36)∨(fmR o=7∧o=37)∨(fmR o=8∧o=38)∨(fmR o=9∧39≤o):=by
 unfold fmR;rw[if_neg (by omega)];by_cases a1:o≤14
 ·rw[if_pos a1];omega
 rw[if_neg a1];by_cases a2:o≤20
 ·rw[if_pos a2];omega
 rw[if_neg a2];by_cases a3:o≤23
 ·rw[if_pos a3];omega
 rw[if_neg a3];by_cases a4:o=24
 ·rw[if_pos a4];omega
 rw[if_neg a4];by_cases a5:o≤27
 ·rw[if_pos a5];omega
 rw[if_neg a5];by_cases a6:o≤30
 ·rw[if_pos a6];omega
 rw[if_neg a6];by_cases a7:o≤36
 ·rw[if_pos a7];omega
 rw[if_neg a7];by_cases a8:o=37
 ·rw[if_pos a8];omega
 rw[if_neg a8];by_cases a9:o=38
 ·rw[if_pos a9];omega
 rw[if_neg a9];omega
theorem J2{o:Int}(h0:0≤o)(h1:o≤40):(0≤thR o∧thR o<8)∧(svR o=0∨svR o=1∨svR o=32)∧(fmR o=3∨fmR o=7→opR (cdR (fmR o)) 0 0=o)∧(fmR o=0∨fmR o=2→opR (cdR (fmR o)) (thR o) (svR o)=o)∧(fmR o=1∨fmR o=4∨fmR o=5∨fmR o=6∨fmR o=8→opR (cdR (fmR o)) (thR o) 0=o):=by
 obtain⟨k,rfl⟩:=A9c h0 h1;have:=A7V k;unfold A9G at this;simp only[Bool.and_eq_true,Bool.or_eq_true,decide_eq_true_eq,beq_iff_eq]at this;obtain⟨a1,a2,a3,a4⟩:=this;refine⟨⟨a1,a2⟩,a3,fun h=>?_,fun h=>?_,fun h=>?_⟩
 ·rw[if_neg (by omega),if_pos h]at a4;simpa using a4
 ·rw[if_neg (by omega),if_neg (by omega),if_pos h]at a4;simpa using a4
 ·rw[if_neg (by omega),if_neg (by omega),if_neg (by omega)]at a4;simpa using a4
theorem A9n{f n:Int}(h:fiR f n=true):(f=0∨f=9→n=0)∧(f=1∨f=4∨f=5∨f=8→-2048≤n∧n≤2047)∧(f=2→0≤n∧n≤31)∧(f=3→0≤n∧n<1048576)∧(f=6→-4096≤n∧n≤4094∧n%2=0)∧(f=7→-1048576≤n∧n≤1048574∧n%2=0):=by
 unfold fiR at h;refine⟨fun e=>?_,fun e=>?_,fun e=>?_,fun e=>?_,fun e=>?_,fun e=>?_⟩
 ·rw[if_neg (by omega),if_neg (by omega),if_neg (by omega),if_neg (by omega),if_neg (by omega)]at h;simpa using h
 ·rw[if_pos e]at h;simpa using h
 ·rw[if_neg (by omega),if_pos e]at h;simpa using h
 ·rw[if_neg (by omega),if_neg (by omega),if_pos e]at h;simpa using h
 ·rw[if_neg (by omega),if_neg (by omega),if_neg (by omega),if_pos e]at h;simpa using h
 ·rw[if_neg (by omega),if_neg (by omega),if_neg (by omega),if_neg (by omega),if_pos e]at h;simpa using h
theorem A8F{x:Rv}(h:okR x=true):0≤G9 x∧G9 x<4294967296:=by
 obtain⟨o0,o1⟩:=A4m h;obtain⟨⟨t0,t1⟩,hsv,-⟩:=J2 o0 o1;unfold okR at h;simp only[Bool.and_eq_true]at h;obtain⟨hd,ha,hb,hf,hi⟩:=h;obtain⟨⟨d0,d1⟩,-⟩:=p8 hd;obtain⟨⟨a0,a1⟩,-⟩:=p8 ha;obtain⟨⟨b0,b1⟩,-⟩:=p8 hb;obtain⟨-,-,i2,-⟩:=A9n hi;have key:∀c d t a b s:Int,0≤c∧c<128→0≤d∧d<32→0≤t∧t<8→0≤a∧a<32→0≤b∧b<32→0≤s∧s<128→0≤asm c d t a b s∧asm c d t a b s<4294967296:=fun c d t a b s g1 g2 g3 g4 g5 g6=>(A8S g1 g2 g3 g4 g5 g6).2.2.2.2.2.2
 clear hd ha hb hf hi;unfold G9;rcases G7 x.o o0 o1 with⟨f,ho⟩|⟨f,ho⟩|⟨f,ho⟩|⟨f,ho⟩|⟨f,ho⟩|⟨f,ho⟩|⟨f,ho⟩|⟨f,ho⟩|⟨f,ho⟩|⟨f,ho⟩<;>rw[f]
 ·exact key 51 _ _ _ _ _ (by omega) (by omega) (by omega) (by omega) (by omega) (by omega)
 ·exact key 19 _ _ _ _ _ (by omega) (by omega) (by omega) (by omega) (by omega) (by omega)
 ·have:=i2 f;exact key 19 _ _ _ _ _ (by omega) (by omega) (by omega) (by omega) (by omega) (by omega)
 ·exact key 55 _ _ _ _ _ (by omega) (by omega) (by omega) (by omega) (by omega) (by omega)
 ·exact key 3 _ _ _ _ _ (by omega) (by omega) (by omega) (by omega) (by omega) (by omega)
 ·exact key 35 _ _ _ _ _ (by omega) (by omega) (by omega) (by omega) (by omega) (by omega)
 ·exact key 99 _ _ _ _ _ (by omega) (by omega) (by omega) (by omega) (by omega) (by omega)
 ·exact key 111 _ _ _ _ _ (by omega) (by omega) (by omega) (by omega) (by omega) (by omega)
 ·exact key 103 _ _ _ _ _ (by omega) (by omega) (by omega) (by omega) (by omega) (by omega)
 ·show 0≤(if x.o=40 then(1048691:Int)else 115)∧(if x.o=40 then(1048691:Int)else 115)<4294967296
  split<;>omega
end Go.Proofs.YtajljbmeaeeknaaGreat
namespace Go.Proofs.YtajljbmeaeeknaaGreat
open Go.RowKit Go.Maps
set_option linter.unusedVariables false
set_option linter.unusedSimpArgs false
def Byt(l:List Int):Prop:=∀i,0≤l.getD i 0∧l.getD i 0<256
structure Mac where
 r:List Int
 f:Int
 a:Int
 m:List Int
 e:Int
def A9T(c:Mac)(mv:Value):List Value:=c.r.map (Value.int .u32)++[.int .i64 c.f,.int .u32 c.a,mv,.int .i64 c.e]
def CellsAt(w:World)(b:Nat)(cs:List Value):Prop:=∀k v,cs[k]? =some v→w.cell? ⟨b,k,none⟩=some v∧w.frozen? ⟨b,k,none⟩=false
theorem CellsAt.set{w:World}{b:Nat}{cs:List Value}(h:CellsAt w b cs){k:Nat}(hk:k<cs.length)(u:Value):CellsAt (w.setCell ⟨b,k,none⟩ u) b (cs.set k u):=by
 exact A8s
theorem CellsAt.other{w:World}{b b' k:Nat}{cs:List Value}(h:CellsAt w b cs)(hb:b≠b')(u:Value):CellsAt (w.setCell ⟨b',k,none⟩ u) b cs:=by
 intro j v hj;have:=h j v hj;exact⟨by rw[World.cell?_setCell_other _ _ _ _ (by intro hh;cases hh;exact hb rfl)];exact this.1,by rw[World.frozen?_setCell];exact this.2⟩
theorem CellsAt.lt{w:World}{b:Nat}{cs:List Value}(h:CellsAt w b cs)(h0:0<cs.length):b<w.heap.size:=B6 (h 0 _ (List.getElem?_eq_getElem h0)).1
theorem CellsAt.block{w w':World}{b:Nat}{cs:List Value}(h:CellsAt w b cs)(hb:w'.heap[b]? =w.heap[b]?):CellsAt w' b cs:=fun k v hk=>by
 have:=h k v hk;exact⟨by rw[←this.1];exact World.cell?_of_block (w:=w) hb,by rw[←this.2];exact World.frozen?_of_block (w:=w) hb⟩
theorem I3(w:World)(cells:Array Value)(t:TypeId):(w.alloc (.cells cells t)).heap[w.heap.size]? =some (.cells cells t (0,0)):=by
 show(w.heap.push _)[w.heap.size]? =_
 exact Array.getElem?_push_size
theorem A2P{w:World}{b:Nat}{cs:List Value}{t:TypeId}(h:w.heap[b]? =some (.cells cs.toArray t (0,0))):CellsAt w b cs:=by
 intro k v hk;refine⟨?_,?_⟩
 ·simp[World.cell?,h,hk]
 ·simp[World.frozen?,h]
theorem CellsAt.setCells{w:World}{b:Nat}{cs ds:List Value}(h:CellsAt w b cs)(hl:ds.length=cs.length):CellsAt (w.setCells b 0 ds) b ds:=by
 intro k v hk;have hkl:k<ds.length:=(List.getElem?_eq_some_iff.1 hk).1;have hs:∀j,j<ds.length→(w.cell? ⟨b,0+j,none⟩).isSome=true:=fun j hj=>by
  rw[Nat.zero_add,(h j _ (List.getElem?_eq_getElem (by omega))).1];rfl
 have h1:=World.cell?_setCells_in b ds 0 w hs k hkl;rw[Nat.zero_add]at h1;refine⟨by rw[h1,←hk,List.getElem?_eq_getElem hkl],?_⟩;rw[World.frozen?_setCells];exact(h k _ (List.getElem?_eq_getElem (by omega))).2
theorem Q8(b:Nat):∀(vs:List Value) (o:Nat) (w:World),(w.setCells b o vs).heap.size=w.heap.size
 |[],_,_=>rfl
 |v::r,o,w=>by rw[World.setCells,Q8 b r];simp[World.setCell]
theorem OInts.cellsO{k:IntKind}{w:World}{D b:Nat}{xs:List Int}(h:OInts k w D xs)(hD:D≠b)(vs:List Value):OInts k (w.setCells b 0 vs) D xs:=
 ⟨by rw[Q8];exact h.1,fun i hi=>⟨by rw[World.cell?_setCells_out b vs 0 w _ (fun e _=>absurd e hD)];exact h.cell hi,by rw[World.frozen?_setCells];exact h.free hi⟩⟩
theorem CellsAt.range{w:World}{b:Nat}{cs:List Value}(h:CellsAt w b cs):w.rangeAt b 0 cs:=fun j v hj=>by rw[Nat.zero_add];exact(h j v hj).1
theorem CellsAt.there{w:World}{b:Nat}{cs ds:List Value}(h:CellsAt w b cs)(hl:ds.length=cs.length):w.there b 0 ds.toArray.size:=fun j hj=>by
 have:=h j _ (List.getElem?_eq_getElem (by rw[←hl];simpa using hj));rw[Nat.zero_add];exact⟨by rw[this.1];rfl,this.2⟩
theorem CellsAt.below{w w':World}{b:Nat}{cs:List Value}(h:CellsAt w b cs)(h0:0<cs.length)(hb:Below w.heap.size w w'):CellsAt w' b cs:=h.block (hb.block b (h.lt h0))
theorem B9(w:World)(cs:List Value)(t:TypeId):Below w.heap.size w (w.alloc (.cells cs.toArray t))∧CellsAt (w.alloc (.cells cs.toArray t)) w.heap.size cs:=
 ⟨(Below.refl _ _).alloc (Nat.le_refl _) _,A2P (t:=t) (I3 w _ t)⟩
theorem j5{P:Program}{w:World}{b:Nat}{cs:List Value}{ty:TypeId}{d:TypeDesc}(h:CellsAt w b cs)(hu:P.underlying ty=some d)(hd:d.isRow=true)(hi:(P.info? ty).map (·.size)=some cs.length):(loadVar ty ⟨b,0,none⟩).run P w= .ok (.agg cs.toArray) w:=
 run_loadVar_mid w b 0 ty cs d h.range hu hd hi
theorem res1{P:Program}{fn:Func}{p:Tmp}{ty:TypeId}{tmps:Array Value}{w:World}{b:Nat}{cs:List Value}{d:TypeDesc}(hf:fn.results=#[.cell p ty])(hp:tmps.getD p undef= .pointer (some ⟨b,0,none⟩))(h:CellsAt w b cs)(hu:P.underlying ty=some d)(hd:d.isRow=true)(hi:(P.info? ty).map (·.size)=some cs.length):
  (results fn tmps).run P w= .ok (.agg cs.toArray) w:=by
 have hp':tmps[p]?.getD undef= .pointer (some ⟨b,0,none⟩):=by simpa using hp
 simp[results,hf,hp',asAddr,j5 h hu hd hi]
theorem res2{P:Program}{fn:Func}{p u:Tmp}{ty:TypeId}{tmps:Array Value}{w:World}{b:Nat}{cs:List Value}{d:TypeDesc}{v:Value}(hf:fn.results=#[.cell p ty,.tmp u])(hp:tmps.getD p undef= .pointer (some ⟨b,0,none⟩))(hv:tmps.getD u undef=v)(h:CellsAt w b cs)(hu:P.underlying ty=some d)(hd:d.isRow=true)(hi:(P.info? ty).map (·.size)=some cs.length):
  (results fn tmps).run P w= .ok (.tuple #[.agg cs.toArray,v]) w:=by
 rw[results_cell_tmp hf,hp,hv];simp[asAddr,j5 h hu hd hi,Result.andThen]
structure MOk(c:Mac):Prop where
 rl:c.r.length=32
 rb:∀k,0≤c.r.getD k 0∧c.r.getD k 0<4294967296
 ab:0≤c.a∧c.a<4294967296
 mb:Byt c.m
def MemO(base:Nat)(w:World)(mv:Value)(m:List Int):Prop:=
 (m=[]∧mv= .slice none 0 0)∨∃D cap,mv= .slice (some ⟨D,0,none⟩) m.length cap∧m.length≤cap∧cap≤9223372036854775807∧base≤D∧OInts .u8 w D m
theorem MemO.below{base:Nat}{w w':World}{mv:Value}{m:List Int}(h:MemO base w mv m)(hb:Below w.heap.size w w'):MemO base w' mv m:=
 h.imp id fun⟨D,cap,e,h1,h2,h5,h6⟩=>⟨D,cap,e,h1,h2,h5,h6.below hb⟩
theorem OInts.setO{k:IntKind}{w:World}{D b j:Nat}{xs:List Int}(h:OInts k w D xs)(hD:D≠b)(u:Value):OInts k (w.setCell ⟨b,j,none⟩ u) D xs:=
 ⟨by simpa[World.setCell]using h.1,fun i hi=>⟨by rw[World.cell?_setCell_other _ _ _ _ (by intro hh;cases hh;exact hD rfl)];exact h.cell hi,by rw[World.frozen?_setCell];exact h.free hi⟩⟩
theorem MemO.set{base b j:Nat}{w:World}{mv:Value}{m:List Int}(h:MemO base w mv m)(hb:b<base)(u:Value):MemO base (w.setCell ⟨b,j,none⟩ u) mv m:=
 h.imp id fun⟨D,cap,e,h1,h2,h5,h6⟩=>⟨D,cap,e,h1,h2,h5,h6.setO (by omega) u⟩
theorem MemO.setCells{base b:Nat}{w:World}{mv:Value}{m:List Int}(h:MemO base w mv m)(hb:b<base)(vs:List Value):MemO base (w.setCells b 0 vs) mv m:=
 h.imp id fun⟨D,cap,e,h1,h2,h5,h6⟩=>⟨D,cap,e,h1,h2,h5,h6.cellsO (by omega) vs⟩
theorem MemO.own{base:Nat}{w:World}{mv:Value}{m:List Int}(h:MemO base w mv m)(k:Nat)(hk:mv.ownBlock=some k):base≤k∧k<w.heap.size:=by
 rcases h with⟨_,e⟩|⟨D,cap,e,_,_,h5,h6⟩
 ·rw[e]at hk;cases hk
 ·rw[e]at hk;have:D=k:=by injection hk
  subst this;exact⟨h5,h6.1⟩
theorem MemO.low{base base':Nat}{w:World}{mv:Value}{m:List Int}(h:MemO base w mv m)(hb:base'≤base):MemO base' w mv m:=
 h.imp id fun⟨D,cap,e,h1,h2,h5,h6⟩=>⟨D,cap,e,h1,h2,Nat.le_trans hb h5,h6⟩
theorem MemO.ints{base:Nat}{w:World}{mv:Value}{m:List Int}(h:MemO base w mv m)(hl:m.length≤100000):Ints .u8 w mv m:=by
 rcases h with⟨e,e2⟩|⟨D,cap,e,h1,h2,h5,h6⟩
 ·rw[e,e2];exact⟨none,0,by simp,by simp,by decide,fun _=>rfl,fun i hi=>absurd hi (by simp)⟩
 ·rw[e];exact⟨some ⟨D,0,none⟩,cap,rfl,h1,⟨by omega,by omega⟩,(fun hh=>by cases hh),fun i hi=>⟨D,0,rfl,h6.1,by simpa using h6.cell hi⟩⟩
theorem CellsAt.regs{w:World}{b:Nat}{c:Mac}{mv:Value}(h:CellsAt w b (A9T c mv)):w.rangeAt b 0 (c.r.map (Value.int .u32)):=fun j v hj=>by
 rw[Nat.zero_add];refine(h j v ?_).1;unfold A9T;rw[List.getElem?_append_left ((List.getElem?_eq_some_iff.1 hj).1)];exact hj
end Go.Proofs.YtajljbmeaeeknaaGreat
namespace Go.Proofs.YtajljbmeaeeknaaGreat
open Go.RowKit
set_option linter.unusedVariables false
set_option linter.unusedSimpArgs false
theorem A3e(o:Int)(w:World)(h:o<0):Calls prog 84 #[.int .i64 o] w fun e w'=>e= .returned (.int .i64 10)∧w=w':=by
 have g0:decide (o<0)=true:=by simp;omega
 clear h;go_enter func84,ntmps84;go_wp2_with fail
 go_ret;exact⟨rfl,rfl⟩
theorem A3f(o:Int)(w:World)(h:40<o):Calls prog 84 #[.int .i64 o] w fun e w'=>e= .returned (.int .i64 10)∧w=w':=by
 have g0:decide (o<0)=false:=by simp;omega
 have g1:decide (40<o)=true:=by simp;omega
 clear h;go_enter func84,ntmps84;go_wp2_with fail
 go_ret;exact⟨rfl,rfl⟩
theorem A1D(o:Int)(w:World)(h0:0≤o)(h1:o≤14):Calls prog 84 #[.int .i64 o] w fun e w'=>e= .returned (.int .i64 0)∧w=w':=by
 have g0:decide (o<0)=false:=by simp;omega
 have g1:decide (40<o)=false:=by simp;omega
 have t0:decide (o≤14)=true:=by simp;omega
 clear h0 h1;go_enter func84,ntmps84;go_wp2_with fail
 go_ret;exact⟨rfl,rfl⟩
theorem A1C(o:Int)(w:World)(h0:15≤o)(h1:o≤20):Calls prog 84 #[.int .i64 o] w fun e w'=>e= .returned (.int .i64 1)∧w=w':=by
 have g0:decide (o<0)=false:=by simp;omega
 have g1:decide (40<o)=false:=by simp;omega
 have t0:decide (o≤14)=false:=by simp;omega
 have t1:decide (o≤20)=true:=by simp;omega
 clear h0 h1;go_enter func84,ntmps84;go_wp2_with fail
 go_ret;exact⟨rfl,rfl⟩
theorem A1B(o:Int)(w:World)(h0:21≤o)(h1:o≤23):Calls prog 84 #[.int .i64 o] w fun e w'=>e= .returned (.int .i64 2)∧w=w':=by
 have g0:decide (o<0)=false:=by simp;omega
 have g1:decide (40<o)=false:=by simp;omega
 have t0:decide (o≤14)=false:=by simp;omega
 have t1:decide (o≤20)=false:=by simp;omega
 have t2:decide (o≤23)=true:=by simp;omega
 clear h0 h1;go_enter func84,ntmps84;go_wp2_with fail
 go_ret;exact⟨rfl,rfl⟩
theorem A1A(o:Int)(w:World)(h0:24≤o)(h1:o≤24):Calls prog 84 #[.int .i64 o] w fun e w'=>e= .returned (.int .i64 3)∧w=w':=by
 have g0:decide (o<0)=false:=by simp;omega
 have g1:decide (40<o)=false:=by simp;omega
 have t0:decide (o≤14)=false:=by simp;omega
 have t1:decide (o≤20)=false:=by simp;omega
 have t2:decide (o≤23)=false:=by simp;omega
 have t3:(o==24)=true:=by simp;omega
 clear h0 h1;go_enter func84,ntmps84;go_wp2_with fail
 go_ret;exact⟨rfl,rfl⟩
theorem A0z(o:Int)(w:World)(h0:25≤o)(h1:o≤27):Calls prog 84 #[.int .i64 o] w fun e w'=>e= .returned (.int .i64 4)∧w=w':=by
 have g0:decide (o<0)=false:=by simp;omega
 have g1:decide (40<o)=false:=by simp;omega
 have t0:decide (o≤14)=false:=by simp;omega
 have t1:decide (o≤20)=false:=by simp;omega
 have t2:decide (o≤23)=false:=by simp;omega
 have t3:(o==24)=false:=by simp;omega
 have t4:decide (o≤27)=true:=by simp;omega
 clear h0 h1;go_enter func84,ntmps84;go_wp2_with fail
 go_ret;exact⟨rfl,rfl⟩
theorem A0y(o:Int)(w:World)(h0:28≤o)(h1:o≤30):Calls prog 84 #[.int .i64 o] w fun e w'=>e= .returned (.int .i64 5)∧w=w':=by
 have g0:decide (o<0)=false:=by simp;omega
 have g1:decide (40<o)=false:=by simp;omega
 have t0:decide (o≤14)=false:=by simp;omega
 have t1:decide (o≤20)=false:=by simp;omega
 have t2:decide (o≤23)=false:=by simp;omega
 have t3:(o==24)=false:=by simp;omega
 have t4:decide (o≤27)=false:=by simp;omega
 have t5:decide (o≤30)=true:=by simp;omega
 clear h0 h1;go_enter func84,ntmps84;go_wp2_with fail
 go_ret;exact⟨rfl,rfl⟩
theorem A0x(o:Int)(w:World)(h0:31≤o)(h1:o≤36):Calls prog 84 #[.int .i64 o] w fun e w'=>e= .returned (.int .i64 6)∧w=w':=by
 have g0:decide (o<0)=false:=by simp;omega
 have g1:decide (40<o)=false:=by simp;omega
 have t0:decide (o≤14)=false:=by simp;omega
 have t1:decide (o≤20)=false:=by simp;omega
 have t2:decide (o≤23)=false:=by simp;omega
 have t3:(o==24)=false:=by simp;omega
 have t4:decide (o≤27)=false:=by simp;omega
 have t5:decide (o≤30)=false:=by simp;omega
 have t6:decide (o≤36)=true:=by simp;omega
 clear h0 h1;go_enter func84,ntmps84;go_wp2_with fail
 go_ret;exact⟨rfl,rfl⟩
theorem A0w(o:Int)(w:World)(h0:37≤o)(h1:o≤37):Calls prog 84 #[.int .i64 o] w fun e w'=>e= .returned (.int .i64 7)∧w=w':=by
 have g0:decide (o<0)=false:=by simp;omega
 have g1:decide (40<o)=false:=by simp;omega
 have t0:decide (o≤14)=false:=by simp;omega
 have t1:decide (o≤20)=false:=by simp;omega
 have t2:decide (o≤23)=false:=by simp;omega
 have t3:(o==24)=false:=by simp;omega
 have t4:decide (o≤27)=false:=by simp;omega
 have t5:decide (o≤30)=false:=by simp;omega
 have t6:decide (o≤36)=false:=by simp;omega
 have t7:(o==37)=true:=by simp;omega
 clear h0 h1;go_enter func84,ntmps84;go_wp2_with fail
 go_ret;exact⟨rfl,rfl⟩
theorem A0v(o:Int)(w:World)(h0:38≤o)(h1:o≤38):Calls prog 84 #[.int .i64 o] w fun e w'=>e= .returned (.int .i64 8)∧w=w':=by
 have g0:decide (o<0)=false:=by simp;omega
 have g1:decide (40<o)=false:=by simp;omega
 have t0:decide (o≤14)=false:=by simp;omega
 have t1:decide (o≤20)=false:=by simp;omega
 have t2:decide (o≤23)=false:=by simp;omega
 have t3:(o==24)=false:=by simp;omega
 have t4:decide (o≤27)=false:=by simp;omega
 have t5:decide (o≤30)=false:=by simp;omega
 have t6:decide (o≤36)=false:=by simp;omega
 have t7:(o==37)=false:=by simp;omega
 have t8:(o==38)=true:=by simp;omega
 clear h0 h1;go_enter func84,ntmps84;go_wp2_with fail
 go_ret;exact⟨rfl,rfl⟩
theorem A5I(o:Int)(w:World)(h0:39≤o)(h1:o≤40):Calls prog 84 #[.int .i64 o] w fun e w'=>e= .returned (.int .i64 9)∧w=w':=by
 have g0:decide (o<0)=false:=by simp;omega
 have g1:decide (40<o)=false:=by simp;omega
 have t0:decide (o≤14)=false:=by simp;omega
 have t1:decide (o≤20)=false:=by simp;omega
 have t2:decide (o≤23)=false:=by simp;omega
 have t3:(o==24)=false:=by simp;omega
 have t4:decide (o≤27)=false:=by simp;omega
 have t5:decide (o≤30)=false:=by simp;omega
 have t6:decide (o≤36)=false:=by simp;omega
 have t7:(o==37)=false:=by simp;omega
 have t8:(o==38)=false:=by simp;omega
 clear h0 h1;go_enter func84,ntmps84;go_wp2_with fail
 go_ret;exact⟨rfl,rfl⟩
theorem U4(o:Int)(w:World):Calls prog 84 #[.int .i64 o] w fun e w'=>e= .returned (.int .i64 (fmR o))∧w=w':=by
 by_cases h0:o<0
 ·have e:fmR o=10:=by unfold fmR;rw[if_pos (.inl h0)]
  rw[e];exact A3e o w h0
 by_cases h1:40<o
 ·have e:fmR o=10:=by unfold fmR;rw[if_pos (.inr h1)]
  rw[e];exact A3f o w h1
 rcases G7 o (by omega) (by omega)with⟨f,ho⟩|⟨f,ho⟩|⟨f,ho⟩|⟨f,ho⟩|⟨f,ho⟩|⟨f,ho⟩|⟨f,ho⟩|⟨f,ho⟩|⟨f,ho⟩|⟨f,ho⟩<;>rw[f]
 ·exact A1D o w (by omega) (by omega)
 ·exact A1C o w (by omega) (by omega)
 ·exact A1B o w (by omega) (by omega)
 ·exact A1A o w (by omega) (by omega)
 ·exact A0z o w (by omega) (by omega)
 ·exact A0y o w (by omega) (by omega)
 ·exact A0x o w (by omega) (by omega)
 ·exact A0w o w (by omega) (by omega)
 ·exact A0v o w (by omega) (by omega)
 ·exact A5I o w (by omega) (by omega)
theorem I4(f:Int)(hf:0≤f∧f≤9)(w:World):Calls prog 87 #[.int .i64 f] w fun e w'=>e= .returned (.int .u32 (cdR f))∧w=w':=by
 have hc:f=0∨f=1∨f=2∨f=3∨f=4∨f=5∨f=6∨f=7∨f=8∨f=9:=by omega
 rcases hc with rfl|rfl|rfl|rfl|rfl|rfl|rfl|rfl|rfl|rfl
 all_goals
  go_enter func87,ntmps87;go_wp2_with fail
  go_ret;exact⟨rfl,rfl⟩
set_option maxHeartbeats 2000000
def hsL(f:Int):List Bool:=[hdR f,haR f,hbR f,decide (1≤f)&&decide (f≤8)]
def hsV(f:Int):List Value:=(hsL f).map Value.bool
theorem A4A(f:Int)(hf:0≤f∧f≤10)(w:World):Calls prog 85 #[.int .i64 f] w fun e w'=>e= .returned (.agg (hsV f).toArray)∧Below w.heap.size w w':=by
 have hc:f=0∨f=1∨f=2∨f=3∨f=4∨f=5∨f=6∨f=7∨f=8∨f=9∨f=10:=by omega
 rcases hc with rfl|rfl|rfl|rfl|rfl|rfl|rfl|rfl|rfl|rfl|rfl
 all_goals
  go_enter func85,ntmps85;go_wp2_with fail
  refine bodyPost_ret (v:=.agg (hsV _).toArray) (res1 (cs:=hsV _) rfl rfl (B9 w _ 165).2 underlying165 rfl (by kernel_rfl)) rfl ⟨rfl,(Below.refl _ w).alloc (Nat.le_refl _) _⟩
theorem A2z{p:Prop}(h:p:=by
 cases b0<;>cases b1
 all_goals
  go_enter func86,ntmps86;go_wp2_with fail
  go_ret;exact⟨rfl,rfl⟩
 ):p:=h
set_option maxHeartbeats 4000000 in
theorem I6(o:Int)(w:World)(h0:0≤o)(h1:o≤38):Calls prog 88 #[.int .i64 o] w fun e w'=>e= .returned (.int .u32 (thR o))∧w=w':=by
 have hc:o=0∨o=1∨o=2∨o=3∨o=4∨o=5∨o=6∨o=7∨o=8∨o=9∨o=10∨o=11∨o=12∨o=13∨o=14∨o=15∨o=16∨o=17∨o=18∨o=19∨o=20∨o=21∨o=22∨o=23∨o=24∨o=25∨o=26∨o=27∨o=28∨o=29∨o=30∨o=31∨o=32∨o=33∨o=34∨o=35∨o=36∨o=37∨o=38:=by omega
 rcases hc with rfl|rfl|rfl|rfl|rfl|rfl|rfl|rfl|rfl|rfl|rfl|rfl|rfl|rfl|rfl|rfl|rfl|rfl|rfl|rfl|rfl|rfl|rfl|rfl|rfl|rfl|rfl|rfl|rfl|rfl|rfl|rfl|rfl|rfl|rfl|rfl|rfl|rfl|rfl
 all_goals
  go_enter func88,ntmps88;go_wp2_with fail
  go_ret;exact⟨rfl,rfl⟩
theorem G6(o:Int)(w:World):Calls prog 89 #[.int .i64 o] w fun e w'=>e= .returned (.int .u32 (svR o))∧w=w':=by
 by_cases h1:o=1
 ·subst h1;go_enter func89,ntmps89;go_wp2_with fail
  go_ret;exact⟨rfl,rfl⟩
 by_cases h2:o=7
 ·subst h2;go_enter func89,ntmps89;go_wp2_with fail
  go_ret;exact⟨rfl,rfl⟩
 by_cases h3:o=23
 ·subst h3;go_enter func89,ntmps89;go_wp2_with fail
  go_ret;exact⟨rfl,rfl⟩
 have e0:svR o=if 10≤o∧o≤14 then 1 else 0:=by unfold svR;rw[if_neg (by omega)]
 rw[e0];have b1:(o==1)=false:=by simpa using h1
 have b2:(o==7)=false:=by simpa using h2
 have b3:(o==23)=false:=by simpa using h3
 clear e0;by_cases h4:10≤o
 ·have b4:decide (10≤o)=true:=by simpa using h4
  by_cases h5:o≤14
  ·rw[if_pos ⟨h4,h5⟩];have b5:decide (o≤14)=true:=by simpa using h5
   clear h1 h2 h3 h4 h5;go_enter func89,ntmps89;go_wp2_with fail
   go_ret;exact⟨rfl,rfl⟩
  ·rw[if_neg (by omega)];have b5:decide (o≤14)=false:=by simpa using h5
   clear h1 h2 h3 h4 h5;go_enter func89,ntmps89;go_wp2_with fail
   go_ret;exact⟨rfl,rfl⟩
 ·rw[if_neg (by omega)];have b4:decide (10≤o)=false:=by simpa using h4
  clear h1 h2 h3 h4;go_enter func89,ntmps89;go_wp2_with fail
  go_ret;exact⟨rfl,rfl⟩
theorem A8D(n:Int)(w:World):Calls prog 86 #[.int .i64 0,.int .i64 n] w fun e w'=>e= .returned (.bool (fiR 0 n))∧w=w':=by
 have he:fiR 0 n=(n==0):=rfl;rw[he];clear he;generalize c0:(n==0)=b0;cases b0
 all_goals
  go_enter func86,ntmps86;go_wp2_with fail
  go_ret;exact⟨rfl,rfl⟩
theorem A8C(n:Int)(w:World):Calls prog 86 #[.int .i64 1,.int .i64 n] w fun e w'=>e= .returned (.bool (fiR 1 n))∧w=w':=by
 have he:fiR 1 n=(decide (-2048≤n)&&decide (n≤2047)):=rfl;rw[he];clear he;generalize c0:decide (-2048≤n)=b0;generalize c1:decide (n≤2047)=b1;exact A2z
theorem A8B(n:Int)(w:World):Calls prog 86 #[.int .i64 2,.int .i64 n] w fun e w'=>e= .returned (.bool (fiR 2 n))∧w=w':=by
 have he:fiR 2 n=(decide (0≤n)&&decide (n≤31)):=rfl;rw[he];clear he;generalize c0:decide (0≤n)=b0;generalize c1:decide (n≤31)=b1;exact A2z
theorem A8A(n:Int)(w:World):Calls prog 86 #[.int .i64 3,.int .i64 n] w fun e w'=>e= .returned (.bool (fiR 3 n))∧w=w':=by
 have he:fiR 3 n=(decide (0≤n)&&decide (n<1048576)):=rfl;rw[he];clear he;generalize c0:decide (0≤n)=b0;generalize c1:decide (n<1048576)=b1;exact A2z
theorem A7z(n:Int)(w:World):Calls prog 86 #[.int .i64 4,.int .i64 n] w fun e w'=>e= .returned (.bool (fiR 4 n))∧w=w':=by
 have he:fiR 4 n=(decide (-2048≤n)&&decide (n≤2047)):=rfl;rw[he];clear he;generalize c0:decide (-2048≤n)=b0;generalize c1:decide (n≤2047)=b1;exact A2z
theorem A7y(n:Int)(w:World):Calls prog 86 #[.int .i64 5,.int .i64 n] w fun e w'=>e= .returned (.bool (fiR 5 n))∧w=w':=by
 have he:fiR 5 n=(decide (-2048≤n)&&decide (n≤2047)):=rfl;rw[he];clear he;generalize c0:decide (-2048≤n)=b0;generalize c1:decide (n≤2047)=b1;exact A2z
theorem A7x(n:Int)(w:World):Calls prog 86 #[.int .i64 6,.int .i64 n] w fun e w'=>e= .returned (.bool (fiR 6 n))∧w=w':=by
 have hw:wrap64 (n.tmod 2)=n.tmod 2:=IntWalk.wrap64_in _ (by have:=Int.tmod_lt_of_pos n (show(0:Int)<2 by decide);have:=Int.lt_tmod_of_pos n (show(0:Int)<2 by decide);omega);have ht:(n.tmod 2==0)=(n%2==0):=by
  rw[Bool.eq_iff_iff,beq_iff_eq,beq_iff_eq];exact⟨fun h=>Int.emod_eq_zero_of_dvd (Int.dvd_of_tmod_eq_zero h),fun h=>Int.tmod_eq_zero_of_dvd (Int.dvd_of_emod_eq_zero h)⟩
 have he:fiR 6 n=(decide (-4096≤n)&&(decide (n≤4094)&&n%2==0)):=rfl;rw[he];clear he;rw[←ht];clear ht;generalize c0:decide (-4096≤n)=b0;generalize c1:decide (n≤4094)=b1;generalize c2:(n.tmod 2==0)=b2;cases b0<;>cases b1<;>cases b2
 all_goals
  go_enter func86,ntmps86;go_wp2_with fail
  go_ret;exact⟨rfl,rfl⟩
theorem A7w(n:Int)(w:World):Calls prog 86 #[.int .i64 7,.int .i64 n] w fun e w'=>e= .returned (.bool (fiR 7 n))∧w=w':=by
 have hw:wrap64 (n.tmod 2)=n.tmod 2:=IntWalk.wrap64_in _ (by have:=Int.tmod_lt_of_pos n (show(0:Int)<2 by decide);have:=Int.lt_tmod_of_pos n (show(0:Int)<2 by decide);omega);have ht:(n.tmod 2==0)=(n%2==0):=by
  rw[Bool.eq_iff_iff,beq_iff_eq,beq_iff_eq];exact⟨fun h=>Int.emod_eq_zero_of_dvd (Int.dvd_of_tmod_eq_zero h),fun h=>Int.tmod_eq_zero_of_dvd (Int.dvd_of_emod_eq_zero h)⟩
 have he:fiR 7 n=(decide (-1048576≤n)&&(decide (n≤1048574)&&n%2==0)):=rfl;rw[he];clear he;rw[←ht];clear ht;generalize c0:decide (-1048576≤n)=b0;generalize c1:decide (n≤1048574)=b1;generalize c2:(n.tmod 2==0)=b2;cases b0<;>cases b1<;>cases b2
 all_goals
  go_enter func86,ntmps86;go_wp2_with fail
  go_ret;exact⟨rfl,rfl⟩
theorem A7v(n:Int)(w:World):Calls prog 86 #[.int .i64 8,.int .i64 n] w fun e w'=>e= .returned (.bool (fiR 8 n))∧w=w':=by
 have he:fiR 8 n=(decide (-2048≤n)&&decide (n≤2047)):=rfl;rw[he];clear he;generalize c0:decide (-2048≤n)=b0;generalize c1:decide (n≤2047)=b1;exact A2z
theorem A7u(n:Int)(w:World):Calls prog 86 #[.int .i64 9,.int .i64 n] w fun e w'=>e= .returned (.bool (fiR 9 n))∧w=w':=by
 have he:fiR 9 n=(n==0):=rfl;rw[he];clear he;generalize c0:(n==0)=b0;cases b0
 all_goals
  go_enter func86,ntmps86;go_wp2_with fail
  go_ret;exact⟨rfl,rfl⟩
theorem A5J(f n:Int)(hf:0≤f∧f≤9)(w:World):Calls prog 86 #[.int .i64 f,.int .i64 n] w fun e w'=>e= .returned (.bool (fiR f n))∧w=w':=by
 have hc:f=0∨f=1∨f=2∨f=3∨f=4∨f=5∨f=6∨f=7∨f=8∨f=9:=by omega
 rcases hc with rfl|rfl|rfl|rfl|rfl|rfl|rfl|rfl|rfl|rfl
 ·exact A8D n w
 ·exact A8C n w
 ·exact A8B n w
 ·exact A8A n w
 ·exact A7z n w
 ·exact A7y n w
 ·exact A7x n w
 ·exact A7w n w
 ·exact A7v n w
 ·exact A7u n w
theorem m9{p:Prop}(h:p:=by
 go_enter func90,ntmps90;go_wp2_with fail
 go_quiet(fail)
 go_wp2_with fail
 go_ret;exact⟨rfl,_,rfl⟩
 ):p:=h
theorem A4F(a b:Nat)(ha:a<4294967296)(hb:b<4294967296):bits .and .u32 (a:Int) (b:Int)=((a&&&b:Nat):Int):=by
 have hx:a&&&b<2^32:=Nat.and_lt_two_pow _ (by omega);have h1:(BitVec.ofInt 32 (a:Int)).toNat=a:=by rw[BitVec.ofInt_natCast,BitVec.toNat_ofNat];exact Nat.mod_eq_of_lt (by omega)
 have h2:(BitVec.ofInt 32 (b:Int)).toNat=b:=by rw[BitVec.ofInt_natCast,BitVec.toNat_ofNat];exact Nat.mod_eq_of_lt (by omega)
 show IntKind.u32.wrap ((BitVec.ofInt 32 (a:Int)&&&BitVec.ofInt 32 (b:Int)).toNat:Int)=_
 rw[BitVec.toNat_and,h1,h2];simp only[IntKind.wrap,IntKind.bits,IntKind.signed];simp;omega
theorem u9(a b:Nat)(ha:a<4294967296)(hb:b<4294967296):bits .or .u32 (a:Int) (b:Int)=((a|||b:Nat):Int):=by
 have hx:a|||b<2^32:=Nat.or_lt_two_pow (by omega) (by omega)
 have h1:(BitVec.ofInt 32 (a:Int)).toNat=a:=by rw[BitVec.ofInt_natCast,BitVec.toNat_ofNat];exact Nat.mod_eq_of_lt (by omega)
 have h2:(BitVec.ofInt 32 (b:Int)).toNat=b:=by rw[BitVec.ofInt_natCast,BitVec.toNat_ofNat];exact Nat.mod_eq_of_lt (by omega)
 show IntKind.u32.wrap ((BitVec.ofInt 32 (a:Int)|||BitVec.ofInt 32 (b:Int)).toNat:Int)=_
 rw[BitVec.toNat_or,h1,h2];simp only[IntKind.wrap,IntKind.bits,IntKind.signed];simp;omega
theorem J1{a:Int}(k:Nat)(h0:0≤a)(h1:a<4294967296)(hk:k≤32){m:Int}(hm:m=2^k-1):bits .and .u32 a m=a%2^k:=by
 obtain⟨n,rfl⟩:=Int.eq_ofNat_of_zero_le h0;have hp:1≤2^k:=Nat.one_le_two_pow;have hp2:2^k≤4294967296:=by have:=Nat.pow_le_pow_right (n:=2) (by omega) hk;simpa using this
 have e:m=((2^k-1:Nat):Int):=by rw[hm];push_cast [hp];rfl
 rw[e,A4F n _ (by omega) (by omega),Nat.and_two_pow_sub_one_eq_mod]
 push_cast;rfl
theorem A4D{a b:Int}(k:Nat)(h0:0≤a)(h1:a<2^k)(hb:0≤b)(hs:a+b*2^k<4294967296):bits .or .u32 a (b*2^k)=a+b*2^k:=by
 obtain⟨n,rfl⟩:=Int.eq_ofNat_of_zero_le h0;obtain⟨m,rfl⟩:=Int.eq_ofNat_of_zero_le hb;have e1:(m:Int)*2^k=((m*2^k:Nat):Int):=by push_cast;rfl
 have h1':n<2^k:=by exact_mod_cast h1
 rw[e1]at hs⊢;have:=Nat.two_pow_add_eq_or_of_lt h1' m;rw[u9 n _ (by omega) (by omega),Nat.or_comm,Nat.mul_comm m,←this]
 push_cast
 rw[Int.add_comm]
theorem A3s(n:Int)(h0:0≤n)(h1:n<4294967296)(w:World):Calls prog 90 #[.int .u32 n,.int .i64 0,.int .i64 5,.int .i64 7] w fun e w'=>e= .returned (.int .u32 (n%32*128))∧Dr w w':=by
 have hm:bits .and .u32 (n) 31=n%32:=J1 5 (by omega) (by omega) (by decide) rfl;exact m9
theorem A2V(n:Int)(h0:0≤n)(h1:n<4294967296)(w:World):Calls prog 90 #[.int .u32 n,.int .i64 5,.int .i64 7,.int .i64 25] w fun e w'=>e= .returned (.int .u32 (n / 32%128*33554432))∧Dr w w':=by
 have hm:bits .and .u32 (n / 32) 127=n / 32%128:=J1 7 (by omega) (by omega) (by decide) rfl;exact m9
theorem A2X(n:Int)(h0:0≤n)(h1:n<4294967296)(w:World):Calls prog 90 #[.int .u32 n,.int .i64 11,.int .i64 1,.int .i64 7] w fun e w'=>e= .returned (.int .u32 (n / 2048%2*128))∧Dr w w':=by
 have hm:bits .and .u32 (n / 2048) 1=n / 2048%2:=J1 1 (by omega) (by omega) (by decide) rfl;exact m9
theorem A3r(n:Int)(h0:0≤n)(h1:n<4294967296)(w:World):Calls prog 90 #[.int .u32 n,.int .i64 1,.int .i64 4,.int .i64 8] w fun e w'=>e= .returned (.int .u32 (n / 2%16*256))∧Dr w w':=by
 have hm:bits .and .u32 (n / 2) 15=n / 2%16:=J1 4 (by omega) (by omega) (by decide) rfl;exact m9
theorem A2W(n:Int)(h0:0≤n)(h1:n<4294967296)(w:World):Calls prog 90 #[.int .u32 n,.int .i64 5,.int .i64 6,.int .i64 25] w fun e w'=>e= .returned (.int .u32 (n / 32%64*33554432))∧Dr w w':=by
 have hm:bits .and .u32 (n / 32) 63=n / 32%64:=J1 6 (by omega) (by omega) (by decide) rfl;exact m9
theorem A1V(n:Int)(h0:0≤n)(h1:n<4294967296)(w:World):Calls prog 90 #[.int .u32 n,.int .i64 12,.int .i64 1,.int .i64 31] w fun e w'=>e= .returned (.int .u32 (n / 4096%2*2147483648))∧Dr w w':=by
 have hm:bits .and .u32 (n / 4096) 1=n / 4096%2:=J1 1 (by omega) (by omega) (by decide) rfl;exact m9
theorem A1U(n:Int)(h0:0≤n)(h1:n<4294967296)(w:World):Calls prog 90 #[.int .u32 n,.int .i64 12,.int .i64 8,.int .i64 12] w fun e w'=>e= .returned (.int .u32 (n / 4096%256*4096))∧Dr w w':=by
 have hm:bits .and .u32 (n / 4096) 255=n / 4096%256:=J1 8 (by omega) (by omega) (by decide) rfl;exact m9
theorem A1W(n:Int)(h0:0≤n)(h1:n<4294967296)(w:World):Calls prog 90 #[.int .u32 n,.int .i64 11,.int .i64 1,.int .i64 20] w fun e w'=>e= .returned (.int .u32 (n / 2048%2*1048576))∧Dr w w':=by
 have hm:bits .and .u32 (n / 2048) 1=n / 2048%2:=J1 1 (by omega) (by omega) (by decide) rfl;exact m9
theorem A1T(n:Int)(h0:0≤n)(h1:n<4294967296)(w:World):Calls prog 90 #[.int .u32 n,.int .i64 1,.int .i64 10,.int .i64 21] w fun e w'=>e= .returned (.int .u32 (n / 2%1024*2097152))∧Dr w w':=by
 have hm:bits .and .u32 (n / 2) 1023=n / 2%1024:=J1 10 (by omega) (by omega) (by decide) rfl;exact m9
theorem A1S(n:Int)(h0:0≤n)(h1:n<4294967296)(w:World):Calls prog 90 #[.int .u32 n,.int .i64 20,.int .i64 1,.int .i64 31] w fun e w'=>e= .returned (.int .u32 (n / 1048576%2*2147483648))∧Dr w w':=by
 have hm:bits .and .u32 (n / 1048576) 1=n / 1048576%2:=J1 1 (by omega) (by omega) (by decide) rfl;exact m9
end Go.Proofs.YtajljbmeaeeknaaGreat
