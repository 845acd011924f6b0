/- -/
import Derived.Test.YtajljbmeaeeknaaGreatRows
import Derived.WalkKit
import Derived.WalkSpells
import Derived.WalkLawsBesides
import Derived.Laws.EntriesVeiled
import Derived.Lib.Hide
import Derived.OwnWalk
import Derived.Laws.OwnMore
import Derived.Deep.Quiet
import Derived.StillTail
import Derived.BigQuiet
import Derived.Below
open Go.Proofs.Tryz
namespace Go.Proofs.YtajljbmeaeeknaaGreat
set_option linter.unusedVariables false
set_option linter.unusedSimpArgs false
theorem B1K{p:Prop}(h:p:=by
 unfold fdR;rw[f];refine Rv.ext' rfl q2 q4 (bz rfl).symm ?_;show sgR (_+_*32) 2048=x.i
 rw[q5,q6,show x.i%32+x.i / 32%128*32=x.i%(2*2048)by omega];exact g9 (by omega) (by omega) (by omega)
 ):p:=h
structure Rv where
 o:Int
 d:Int
 a:Int
 b:Int
 i:Int
 deriving DecidableEq,Inhabited
theorem Rv.ext'{x y:Rv}(h1:x.o=y.o)(h2:x.d=y.d)(h3:x.a=y.a)(h4:x.b=y.b)(h5:x.i=y.i):x=y:=by cases x;cases y;simp_all
def fmR(o:Int):Int:=
 if o<0∨40<o then 10 else if o≤14 then 0 else if o≤20 then 1 else if o≤23 then 2 else if o=24 then 3 else if o≤27 then 4 else if o≤30 then 5 else if o≤36 then 6 else if o=37 then 7 else if o=38 then 8 else 9
def cdR(f:Int):Int:=if f=0 then 51 else if f=1∨f=2 then 19 else if f=3 then 55 else if f=4 then 3 else if f=5 then 35 else if f=6 then 99 else if f=7 then 111 else if f=8 then 103 else 115
def thL:List Int:=[0,0,1,2,3,4,5,5,6,7,0,4,5,6,7,0,2,3,4,6,7,1,5,5,0,4,5,2,0,1,2,0,1,4,5,6,7,0,0]
def thR(o:Int):Int:=if 37≤o then 0 else thL.getD o.toNat 0
def svR(o:Int):Int:=if o=1∨o=7∨o=23 then 32 else if 10≤o∧o≤14 then 1 else 0
def hdR(f:Int):Bool:=decide (f≤4)||(f==7||f==8)
def haR(f:Int):Bool:=decide (f≤2)||(f==4||(f==5||(f==6||f==8)))
def hbR(f:Int):Bool:=f==0||(f==5||f==6)
def fiR(f n:Int):Bool:=
 if f=1∨f=4∨f=5∨f=8 then decide (-2048≤n)&&decide (n≤2047)else if f=2 then decide (0≤n)&&decide (n≤31)else if f=3 then decide (0≤n)&&decide (n<1048576)
 else if f=6 then decide (-4096≤n)&&(decide (n≤4094)&&n%2==0)else if f=7 then decide (-1048576≤n)&&(decide (n≤1048574)&&n%2==0)else n==0
def rgR(h:Bool)(r:Int):Bool:=decide (0≤r)&&(decide (r≤31)&&(h||r==0))
def okR(x:Rv):Bool:=rgR (hdR (fmR x.o)) x.d&&(rgR (haR (fmR x.o)) x.a&&(rgR (hbR (fmR x.o)) x.b&&(decide (fmR x.o≠10)&&fiR (fmR x.o) x.i)))
def asm(c d t a b s:Int):Int:=c+d*128+t*4096+a*32768+b*1048576+s*33554432
theorem R6{c d t a b s:Int}(hc:0≤c∧c<128)(hd:0≤d∧d<32)(ht:0≤t∧t<8)(ha:0≤a∧a<32)(hb:0≤b∧b<32)(hs:0≤s∧s<128):
  asm c d t a b s%128=c∧asm c d t a b s / 128%32=d∧asm c d t a b s / 4096%8=t∧asm c d t a b s / 32768%32=a∧asm c d t a b s / 1048576%32=b∧asm c d t a b s / 33554432=s∧0≤asm c d t a b s∧asm c d t a b s<4294967296:=by
 unfold asm;omega
def C7(x:Rv):Int:=
 let f:=fmR x.o
 if f=0 then asm 51 x.d (thR x.o) x.a x.b (svR x.o)
 else if f=1∨f=4∨f=8 then asm (cdR f) x.d (thR x.o) x.a (x.i%32) (x.i / 32%128)
 else if f=2 then asm 19 x.d (thR x.o) x.a x.i (svR x.o)
 else if f=3 then asm 55 x.d (x.i%8) (x.i / 8%32) (x.i / 256%32) (x.i / 8192%128)
 else if f=5 then asm 35 (x.i%32) (thR x.o) x.a x.b (x.i / 32%128)
 else if f=6 then asm 99 (x.i / 2048%2+x.i / 2%16*2) (thR x.o) x.a x.b (x.i / 32%64+x.i / 4096%2*64)
 else if f=7 then asm 111 x.d (x.i / 4096%8) (x.i / 32768%32) (x.i / 2048%2+x.i / 2%16*2) (x.i / 32%64+x.i / 1048576%2*64)
 else if x.o=40 then 1048691 else 115
def opR(c t s:Int):Int:=
 if c=55 then 24 else if c=111 then 37 else if c=103 then(if t=0 then 38 else 41)
 else if c=19 then(if t=0 then 15 else if t=2 then 16 else if t=3 then 17 else if t=4 then 18 else if t=6 then 19 else if t=7 then 20 else if t=1 then(if s=0 then 21 else 41)else if s=0 then 22 else if s=32 then 23 else 41)
 else if c=3 then(if t=4 then 25 else if t=5 then 26 else if t=2 then 27 else 41)
 else if c=35 then(if t=0 then 28 else if t=1 then 29 else if t=2 then 30 else 41)
 else if c=99 then(if t=0 then 31 else if t=1 then 32 else if t=4 then 33 else if t=5 then 34 else if t=6 then 35 else if t=7 then 36 else 41)
 else if c=51 then(if s=0 then(if t=0 then 0 else if t=1 then 2 else if t=2 then 3 else if t=3 then 4 else if t=4 then 5 else if t=5 then 6 else if t=6 then 8 else 9)
  else if s=32 then(if t=0 then 1 else if t=5 then 7 else 41)else if s=1 then(if t=0 then 10 else if t=4 then 11 else if t=5 then 12 else if t=6 then 13 else if t=7 then 14 else 41)else 41)
 else 41
def sgR(n m:Int):Int:=if m≤n then n-2*m else n
def imR(f w:Int):Int:=
 let d:=w / 128%32
 let b:=w / 1048576%32
 let s:=w / 33554432
 if f=1∨f=4∨f=8 then sgR (b+s*32) 2048 else if f=2 then b else if f=3 then w / 4096 else if f=5 then sgR (d+s*32) 2048
 else if f=6 then sgR (d / 2*2+s%64*32+d%2*2048+s / 64*4096) 4096
 else if f=7 then sgR (b / 2*2+s%64*32+b%2*2048+w / 4096%256*4096+s / 64*1048576) 1048576 else 0
def fdR(o w:Int):Rv:=⟨o,if hdR (fmR o)then w / 128%32 else 0,if haR (fmR o)then w / 32768%32 else 0,if hbR (fmR o)then w / 1048576%32 else 0,imR (fmR o) w⟩
def P8(w:Int):Option Rv:=
 if w=115 then some ⟨39,0,0,0,0⟩else if w=1048691 then some ⟨40,0,0,0,0⟩
 else if opR (w%128) (w / 4096%8) (w / 33554432)=41 then none
 else if C7 (fdR (opR (w%128) (w / 4096%8) (w / 33554432)) w)=w then some (fdR (opR (w%128) (w / 4096%8) (w / 33554432)) w)else none
theorem A0A{x:Rv}(h:okR x=true):0≤x.o∧x.o≤40:=by
 unfold okR at h;simp only[Bool.and_eq_true,decide_eq_true_eq]at h;have h1:=h.2.2.2.1;unfold fmR at h1;by_cases e:x.o<0∨40<x.o
 ·rw[if_pos e]at h1;exact absurd rfl h1
 ·omega
theorem B0J{o:Int}(h0:0≤o)(h1:o≤40):∃k:Fin 41,o=((k:Nat):Int):=⟨⟨o.toNat,by omega⟩,by show o=(o.toNat:Int);omega⟩
def B4M(k:Nat):Bool:=
 let o:Int:=k
 let f:=fmR o
 decide (0≤thR o)&&(decide (thR o<8)&&((svR o==0||(svR o==1||svR o==32))&&
 (if f=9 then true else if f=3∨f=7 then opR (cdR f) 0 0==o else if f=0∨f=2 then opR (cdR f) (thR o) (svR o)==o else opR (cdR f) (thR o) 0==o)))
theorem B1j:∀k:Fin 41,B4M k.1=true:=by decide
theorem B1k(t s:Int):opR 55 t s=24:=by unfold opR;rw[if_pos rfl]
theorem B1l(t s:Int):opR 111 t s=37:=by unfold opR;rw[if_neg (by decide),if_pos rfl]
theorem V2{c t:Int}(h:c=103∨c=3∨c=35∨c=99∨(c=19∧t≠1∧t≠5))(ht:0≤t∧t<8)(s:Int):opR c t s=opR c t 0:=by
 unfold opR;rcases h with rfl|rfl|rfl|rfl|⟨rfl,h1,h2⟩<;>simp only[Int.reduceEq,if_false,if_true]
 ·have h3:t=0∨t=2∨t=3∨t=4∨t=6∨t=7:=by omega
  rcases h3 with rfl|rfl|rfl|rfl|rfl|rfl<;>rfl
theorem Q5{x:Rv}{c d t a b s:Int}(he:C7 x=asm c d t a b s)(hc:0≤c∧c<128)(hd:0≤d∧d<32)(ht:0≤t∧t<8)(ha:0≤a∧a<32)(hb:0≤b∧b<32)(hs:0≤s∧s<128)(h5:c≠115)(ho:opR c t s=x.o)(h41:x.o≤40)
  (hx:fdR x.o (asm c d t a b s)=x):P8 (C7 x)=some x:=by
 obtain⟨e1,e2,e3,e4,e5,e6,e7,e8⟩:=R6 hc hd ht ha hb hs;have n1:asm c d t a b s≠115:=fun e=>by rw[e]at e1;exact h5 e1.symm
 have n2:asm c d t a b s≠1048691:=fun e=>by rw[e]at e1;exact h5 e1.symm
 rw[he];unfold P8;rw[if_neg n1,if_neg n2,e1,e3,e6,ho,if_neg (by omega),hx,if_pos he]
theorem U6{h:Bool}{r:Int}(g:rgR h r=true):(0≤r∧r<32)∧(h=false→r=0):=by
 unfold rgR at g;simp only[Bool.and_eq_true,Bool.or_eq_true,decide_eq_true_eq,beq_iff_eq]at g;exact⟨by omega,fun e=>by rw[e]at g;simpa using g.2.2⟩
theorem I7(o:Int)(h0:0≤o)(h1:o≤40):(fmR o=0∧o≤14)∨(fmR o=1∧15≤o∧o≤20)∨(fmR o=2∧21≤o∧o≤23)∨(fmR o=3∧o=24)∨(fmR o=4∧25≤o∧o≤27)∨(fmR o=5∧28≤o∧o≤30)∨(fmR o=6∧31≤o∧o≤36)∨(fmR o=7∧o=37)∨(fmR o=8∧o=38)∨(fmR o=9∧39≤o):=by
 unfold fmR;rw[if_neg (by omega)];by_cases a1:o≤14
 ·rw[if_pos a1];omega
 rw[if_neg a1];by_cases a2:o≤20
 ·rw[if_pos a2];omega
 rw[if_neg a2];by_cases a3:o≤23
 ·rw[if_pos a3];omega
 rw[if_neg a3];by_cases a4:o=24
 ·rw[if_pos a4];omega
 rw[if_neg a4];by_cases a5:o≤27
 ·rw[if_pos a5];omega
 rw[if_neg a5];by_cases a6:o≤30
 ·rw[if_pos a6];omega
 rw[if_neg a6];by_cases a7:o≤36
 ·rw[if_pos a7];omega
 rw[if_neg a7];by_cases a8:o=37
 ·rw[if_pos a8];omega
 rw[if_neg a8];by_cases a9:o=38
 ·rw[if_pos a9];omega
 rw[if_neg a9];omega
theorem M3{o:Int}(h0:0≤o)(h1:o≤40):(0≤thR o∧thR o<8)∧(svR o=0∨svR o=1∨svR o=32)∧(fmR o=3∨fmR o=7→opR (cdR (fmR o)) 0 0=o)∧(fmR o=0∨fmR o=2→opR (cdR (fmR o)) (thR o) (svR o)=o)∧(fmR o=1∨fmR o=4∨fmR o=5∨fmR o=6∨fmR o=8→opR (cdR (fmR o)) (thR o) 0=o):=by
 obtain⟨k,rfl⟩:=B0J h0 h1;have:=B1j k;unfold B4M at this;simp only[Bool.and_eq_true,Bool.or_eq_true,decide_eq_true_eq,beq_iff_eq]at this;obtain⟨a1,a2,a3,a4⟩:=this;refine⟨⟨a1,a2⟩,a3,fun h=>?_,fun h=>?_,fun h=>?_⟩
 ·rw[if_neg (by omega),if_pos h]at a4;simpa using a4
 ·rw[if_neg (by omega),if_neg (by omega),if_pos h]at a4;simpa using a4
 ·rw[if_neg (by omega),if_neg (by omega),if_neg (by omega)]at a4;simpa using a4
theorem g9{n m:Int}(hm:0<m)(h0: -m≤n)(h1:n<m):sgR (n%(2*m)) m=n:=by
 unfold sgR;by_cases h:0≤n
 ·rw[Int.emod_eq_of_lt h (by omega),if_neg (by omega)]
 ·have:n%(2*m)=n+2*m:=by
   rw[←Int.add_emod_right,Int.emod_eq_of_lt (by omega) (by omega)]
  rw[this,if_pos (by omega)];omega
theorem B0L{f n:Int}(h:fiR f n=true):(f=0∨f=9→n=0)∧(f=1∨f=4∨f=5∨f=8→-2048≤n∧n≤2047)∧(f=2→0≤n∧n≤31)∧(f=3→0≤n∧n<1048576)∧(f=6→-4096≤n∧n≤4094∧n%2=0)∧(f=7→-1048576≤n∧n≤1048574∧n%2=0):=by
 unfold fiR at h;refine⟨fun e=>?_,fun e=>?_,fun e=>?_,fun e=>?_,fun e=>?_,fun e=>?_⟩
 ·rw[if_neg (by omega),if_neg (by omega),if_neg (by omega),if_neg (by omega),if_neg (by omega)]at h;simpa using h
 ·rw[if_pos e]at h;simpa using h
 ·rw[if_neg (by omega),if_pos e]at h;simpa using h
 ·rw[if_neg (by omega),if_neg (by omega),if_pos e]at h;simpa using h
 ·rw[if_neg (by omega),if_neg (by omega),if_neg (by omega),if_pos e]at h;simpa using h
 ·rw[if_neg (by omega),if_neg (by omega),if_neg (by omega),if_neg (by omega),if_pos e]at h;simpa using h
theorem B5Y(i:Int):i%8192=i%2+i / 2%16*2+i / 32%64*32+i / 2048%2*2048+i / 4096%2*4096:=by
 have h1:i / 32=i / 2 / 16:=by omega
 have h2:i / 2048=i / 32 / 64:=by omega
 have h3:i / 4096=i / 2048 / 2:=by omega
 have h4:i%8192=i-i / 4096 / 2*8192:=by omega
 generalize i / 4096=q4 at*
 generalize i / 2048=q3 at*
 generalize i / 32=q2 at*
 omega
theorem B5X(i:Int):i%2097152=i%2+i / 2%16*2+i / 32%64*32+i / 2048%2*2048+i / 4096%8*4096+i / 32768%32*32768+i / 1048576%2*1048576:=by
 have h1:i / 32=i / 2 / 16:=by omega
 have h2:i / 2048=i / 32 / 64:=by omega
 have h3:i / 4096=i / 2048 / 2:=by omega
 have h5:i / 32768=i / 4096 / 8:=by omega
 have h6:i / 1048576=i / 32768 / 32:=by omega
 have h4:i%2097152=i-i / 1048576 / 2*2097152:=by omega
 generalize i / 1048576=q6 at*
 generalize i / 32768=q5 at*
 generalize i / 4096=q4 at*
 generalize i / 2048=q3 at*
 generalize i / 32=q2 at*
 omega
theorem B4L{i d s:Int}(h2:i%2=0)(hd:d=i / 2048%2+i / 2%16*2)(hs:s=i / 32%64+i / 4096%2*64):d / 2*2+s%64*32+d%2*2048+s / 64*4096=i%(2*4096):=by
 have h:=B5Y i;have b1:0≤i / 2048%2∧i / 2048%2<2:=by omega
 have b2:0≤i / 32%64∧i / 32%64<64:=by omega
 rw[h2]at h;show _=i%8192
 rw[h];generalize i / 2048%2=a at*
 generalize i / 2%16=b at*
 generalize i / 32%64=c at*
 generalize i / 4096%2=e at*
 have k1:d / 2=b:=by omega
 have k2:d%2=a:=by omega
 have k3:s%64=c:=by omega
 have k4:s / 64=e:=by omega
 rw[k1,k2,k3,k4];omega
theorem B4K{i b s t:Int}(h2:i%2=0)(hb:b=i / 2048%2+i / 2%16*2)(hs:s=i / 32%64+i / 1048576%2*64)(ht:t=i / 4096%8+i / 32768%32*8):b / 2*2+s%64*32+b%2*2048+t*4096+s / 64*1048576=i%(2*1048576):=by
 have h:=B5X i;have b1:0≤i / 2048%2∧i / 2048%2<2:=by omega
 have b2:0≤i / 32%64∧i / 32%64<64:=by omega
 rw[h2]at h;show _=i%2097152
 rw[h];generalize i / 2048%2=a at*
 generalize i / 2%16=c at*
 generalize i / 32%64=d at*
 generalize i / 1048576%2=e at*
 generalize i / 4096%8=f at*
 generalize i / 32768%32=g at*
 have k1:b / 2=c:=by omega
 have k2:b%2=a:=by omega
 have k3:s%64=d:=by omega
 have k4:s / 64=e:=by omega
 rw[k1,k2,k3,k4,ht];omega
theorem B6M{d s:Int}(hd:0≤d∧d<32)(hs:0≤s∧s<128):0≤d / 2*2+s%64*32+d%2*2048+s / 64*4096∧d / 2*2+s%64*32+d%2*2048+s / 64*4096<8192∧(d / 2*2+s%64*32+d%2*2048+s / 64*4096)%2=0:=by
 have k1:0≤d / 2∧d / 2<16:=by omega
 have k2:0≤d%2∧d%2<2:=by omega
 have k3:0≤s%64∧s%64<64:=by omega
 have k4:0≤s / 64∧s / 64<2:=by omega
 generalize d / 2=a at*
 generalize d%2=b at*
 generalize s%64=c at*
 generalize s / 64=e at*
 clear hd hs;omega
theorem B6L{d s t:Int}(hd:0≤d∧d<32)(hs:0≤s∧s<128)(ht:0≤t∧t<256):0≤d / 2*2+s%64*32+d%2*2048+t*4096+s / 64*1048576∧d / 2*2+s%64*32+d%2*2048+t*4096+s / 64*1048576<2097152∧(d / 2*2+s%64*32+d%2*2048+t*4096+s / 64*1048576)%2=0:=by
 have k1:0≤d / 2∧d / 2<16:=by omega
 have k2:0≤d%2∧d%2<2:=by omega
 have k3:0≤s%64∧s%64<64:=by omega
 have k4:0≤s / 64∧s / 64<2:=by omega
 generalize d / 2=a at*
 generalize d%2=b at*
 generalize s%64=c at*
 generalize s / 64=e at*
 clear hd hs;omega
set_option maxHeartbeats 2000000 in
theorem A1Q{x:Rv}(h:okR x=true):P8 (C7 x)=some x:=by
 obtain⟨o0,o1⟩:=A0A h;obtain⟨⟨t0,t1⟩,hsv,k3,k0,k1⟩:=M3 o0 o1;unfold okR at h;simp only[Bool.and_eq_true]at h;obtain⟨hd,ha,hb,hf,hi⟩:=h;obtain⟨⟨d0,d1⟩,dz⟩:=U6 hd;obtain⟨⟨a0,a1⟩,az⟩:=U6 ha;obtain⟨⟨b0,b1⟩,bz⟩:=U6 hb;obtain⟨i0,i1,i2,i3,i6,i7⟩:=B0L hi;clear hd ha hb hf hi;rcases I7 x.o o0 o1 with⟨f,ho⟩|⟨f,ho⟩|⟨f,ho⟩|⟨f,ho⟩|⟨f,ho⟩|⟨f,ho⟩|⟨f,ho⟩|⟨f,ho⟩|⟨f,ho⟩|⟨f,ho⟩<;>rw[f]at dz az bz i0 i1 i2 i3 i6 i7 k3 k0 k1
 ·have he:C7 x=asm 51 x.d (thR x.o) x.a x.b (svR x.o):=by unfold C7;rw[f];rfl
  obtain⟨q1,q2,q3,q4,q5,q6,q7,q8⟩:=R6 (c:=51) (by omega) ⟨d0,d1⟩ ⟨t0,t1⟩ ⟨a0,a1⟩ ⟨b0,b1⟩ (show 0≤svR x.o∧svR x.o<128 by omega);refine Q5 he (by omega) ⟨d0,d1⟩ ⟨t0,t1⟩ ⟨a0,a1⟩ ⟨b0,b1⟩ (by omega) (by omega) (k0 (.inl rfl)) o1 ?_;unfold fdR;rw[f];exact Rv.ext' rfl q2 q4 q5 (i0 (.inl rfl)).symm
 ·have he:C7 x=asm 19 x.d (thR x.o) x.a (x.i%32) (x.i / 32%128):=by unfold C7;rw[f];rfl
  obtain⟨q1,q2,q3,q4,q5,q6,q7,q8⟩:=R6 (c:=19) (by omega) ⟨d0,d1⟩ ⟨t0,t1⟩ ⟨a0,a1⟩ (show 0≤x.i%32∧x.i%32<32 by omega) (show 0≤x.i / 32%128∧x.i / 32%128<128 by omega);have hi:=i1 (by omega);have hk:=k1 (.inl rfl);have hne:thR x.o≠1∧thR x.o≠5:=by
   obtain⟨k,hk'⟩:=B0J o0 o1;have:∀k:Fin 41,15≤((k:Nat):Int)→((k:Nat):Int)≤20→thR ((k:Nat):Int)≠1∧thR ((k:Nat):Int)≠5:=by decide
   rw[hk']at ho⊢;exact this k ho.1 ho.2
  refine Q5 he (by omega) ⟨d0,d1⟩ ⟨t0,t1⟩ ⟨a0,a1⟩ (by omega) (by omega) (by omega) ((V2 (by omega) ⟨t0,t1⟩ _).trans hk) o1 ?_;exact B1K
 ·have hi:=i2 rfl;have he:C7 x=asm 19 x.d (thR x.o) x.a x.i (svR x.o):=by unfold C7;rw[f];rfl
  obtain⟨q1,q2,q3,q4,q5,q6,q7,q8⟩:=R6 (c:=19) (by omega) ⟨d0,d1⟩ ⟨t0,t1⟩ ⟨a0,a1⟩ (show 0≤x.i∧x.i<32 by omega) (show 0≤svR x.o∧svR x.o<128 by omega);refine Q5 he (by omega) ⟨d0,d1⟩ ⟨t0,t1⟩ ⟨a0,a1⟩ (by omega) (by omega) (by omega) (k0 (.inr rfl)) o1 ?_;unfold fdR;rw[f];exact Rv.ext' rfl q2 q4 (bz rfl).symm q5
 ·have hi:=i3 rfl;have he:C7 x=asm 55 x.d (x.i%8) (x.i / 8%32) (x.i / 256%32) (x.i / 8192%128):=by unfold C7;rw[f];rfl
  obtain⟨q1,q2,q3,q4,q5,q6,q7,q8⟩:=R6 (c:=55) (d:=x.d) (t:=x.i%8) (a:=x.i / 8%32) (b:=x.i / 256%32) (s:=x.i / 8192%128) (by omega) ⟨d0,d1⟩ (by omega) (by omega) (by omega) (by omega);refine Q5 he (by omega) ⟨d0,d1⟩ (by omega) (by omega) (by omega) (by omega) (by omega) ((B1k _ _).trans ho.symm) o1 ?_;unfold fdR;rw[f];refine Rv.ext' rfl q2 (az rfl).symm (bz rfl).symm ?_;show _ / 4096=x.i
  unfold asm;omega
 ·have he:C7 x=asm 3 x.d (thR x.o) x.a (x.i%32) (x.i / 32%128):=by unfold C7;rw[f];rfl
  obtain⟨q1,q2,q3,q4,q5,q6,q7,q8⟩:=R6 (c:=3) (by omega) ⟨d0,d1⟩ ⟨t0,t1⟩ ⟨a0,a1⟩ (show 0≤x.i%32∧x.i%32<32 by omega) (show 0≤x.i / 32%128∧x.i / 32%128<128 by omega);have hi:=i1 (by omega);refine Q5 he (by omega) ⟨d0,d1⟩ ⟨t0,t1⟩ ⟨a0,a1⟩ (by omega) (by omega) (by omega) ((V2 (by omega) ⟨t0,t1⟩ _).trans (k1 (by omega))) o1 ?_;exact B1K
 ·have he:C7 x=asm 35 (x.i%32) (thR x.o) x.a x.b (x.i / 32%128):=by unfold C7;rw[f];rfl
  obtain⟨q1,q2,q3,q4,q5,q6,q7,q8⟩:=R6 (c:=35) (by omega) (show 0≤x.i%32∧x.i%32<32 by omega) ⟨t0,t1⟩ ⟨a0,a1⟩ ⟨b0,b1⟩ (show 0≤x.i / 32%128∧x.i / 32%128<128 by omega);have hi:=i1 (by omega);refine Q5 he (by omega) (by omega) ⟨t0,t1⟩ ⟨a0,a1⟩ ⟨b0,b1⟩ (by omega) (by omega) ((V2 (by omega) ⟨t0,t1⟩ _).trans (k1 (by omega))) o1 ?_;unfold fdR;rw[f];refine Rv.ext' rfl (dz rfl).symm q4 q5 ?_;show sgR (_+_*32) 2048=x.i
  rw[q2,q6,show x.i%32+x.i / 32%128*32=x.i%(2*2048)by omega];exact g9 (by omega) (by omega) (by omega)
 ·have he:C7 x=asm 99 (x.i / 2048%2+x.i / 2%16*2) (thR x.o) x.a x.b (x.i / 32%64+x.i / 4096%2*64):=by unfold C7;rw[f];rfl
  obtain⟨q1,q2,q3,q4,q5,q6,q7,q8⟩:=R6 (c:=99) (by omega) (show 0≤x.i / 2048%2+x.i / 2%16*2∧x.i / 2048%2+x.i / 2%16*2<32 by omega) ⟨t0,t1⟩ ⟨a0,a1⟩ ⟨b0,b1⟩ (show 0≤x.i / 32%64+x.i / 4096%2*64∧x.i / 32%64+x.i / 4096%2*64<128 by omega);have hi:=i6 rfl;refine Q5 he (by omega) (by omega) ⟨t0,t1⟩ ⟨a0,a1⟩ ⟨b0,b1⟩ (by omega) (by omega) ((V2 (by omega) ⟨t0,t1⟩ _).trans (k1 (by omega))) o1 ?_;unfold fdR;rw[f];refine Rv.ext' rfl (dz rfl).symm q4 q5 ?_;show sgR (_ / 2*2+_%64*32+_%2*2048+_ / 64*4096) 4096=x.i
  rw[q2,q6,B4L hi.2.2 rfl rfl];exact g9 (by omega) (by omega) (by omega)
 ·have he:C7 x=asm 111 x.d (x.i / 4096%8) (x.i / 32768%32) (x.i / 2048%2+x.i / 2%16*2) (x.i / 32%64+x.i / 1048576%2*64):=by unfold C7;rw[f];rfl
  obtain⟨q1,q2,q3,q4,q5,q6,q7,q8⟩:=R6 (c:=111) (d:=x.d) (t:=x.i / 4096%8) (a:=x.i / 32768%32) (b:=x.i / 2048%2+x.i / 2%16*2) (s:=x.i / 32%64+x.i / 1048576%2*64) (by omega) ⟨d0,d1⟩ (by omega) (by omega) (by omega) (by omega);have hi:=i7 rfl;refine Q5 he (by omega) ⟨d0,d1⟩ (by omega) (by omega) (by omega) (by omega) (by omega) ((B1l _ _).trans ho.symm) o1 ?_;unfold fdR;rw[f];refine Rv.ext' rfl q2 (az rfl).symm (bz rfl).symm ?_;show sgR (_ / 2*2+_%64*32+_%2*2048+_ / 4096%256*4096+_ / 64*1048576) 1048576=x.i
  have q9:asm 111 x.d (x.i / 4096%8) (x.i / 32768%32) (x.i / 2048%2+x.i / 2%16*2) (x.i / 32%64+x.i / 1048576%2*64) / 4096%256=x.i / 4096%8+x.i / 32768%32*8:=by
   have u1:asm 111 x.d (x.i / 4096%8) (x.i / 32768%32) (x.i / 2048%2+x.i / 2%16*2) (x.i / 32%64+x.i / 1048576%2*64) / 32768=asm 111 x.d (x.i / 4096%8) (x.i / 32768%32) (x.i / 2048%2+x.i / 2%16*2) (x.i / 32%64+x.i / 1048576%2*64) / 4096 / 8:=by omega
   generalize asm 111 x.d (x.i / 4096%8) (x.i / 32768%32) (x.i / 2048%2+x.i / 2%16*2) (x.i / 32%64+x.i / 1048576%2*64)=w at*
   clear q5 q6 he hi;generalize x.i / 4096%8=f at*
   generalize x.i / 32768%32=g at*
   generalize w / 4096=z at*
   omega
  rw[q5,q6,q9,B4K hi.2.2 rfl rfl rfl];exact g9 (by omega) (by omega) (by omega)
 ·have he:C7 x=asm 103 x.d (thR x.o) x.a (x.i%32) (x.i / 32%128):=by unfold C7;rw[f];rfl
  obtain⟨q1,q2,q3,q4,q5,q6,q7,q8⟩:=R6 (c:=103) (by omega) ⟨d0,d1⟩ ⟨t0,t1⟩ ⟨a0,a1⟩ (show 0≤x.i%32∧x.i%32<32 by omega) (show 0≤x.i / 32%128∧x.i / 32%128<128 by omega);have hi:=i1 (by omega);refine Q5 he (by omega) ⟨d0,d1⟩ ⟨t0,t1⟩ ⟨a0,a1⟩ (by omega) (by omega) (by omega) ((V2 (by omega) ⟨t0,t1⟩ _).trans (k1 (by omega))) o1 ?_;exact B1K
 ·have hz:=i0 (.inr rfl);have e1:=dz rfl;have e2:=az rfl;have e3:=bz rfl;obtain⟨o,d,a,b,i⟩:=x;simp only at hz e1 e2 e3 o1 ho f⊢;subst hz e1 e2 e3;have:o=39∨o=40:=by omega
  rcases this with rfl|rfl<;>rfl
theorem A8r{f w:Int}(h0:0≤w)(h1:w<4294967296)(hf:0≤f∧f≤9):fiR f (imR f w)=true:=by
 have hs:∀{n m:Int},0≤n→n<2*m→-m≤sgR n m∧sgR n m<m∧(sgR n m=n∨sgR n m=n-2*m):=fun{n m} g0 g1=>by
  unfold sgR;by_cases h:m≤n
  ·rw[if_pos h];omega
  ·rw[if_neg h];omega
 have hc:f=0∨f=1∨f=2∨f=3∨f=4∨f=5∨f=6∨f=7∨f=8∨f=9:=by omega
 rcases hc with rfl|rfl|rfl|rfl|rfl|rfl|rfl|rfl|rfl|rfl
 ·rfl
 ·have:=hs (n:=w / 1048576%32+w / 33554432*32) (m:=2048) (by omega) (by omega);show(decide (_≤sgR _ _)&&decide (sgR _ _≤_))=true
  simp only[Bool.and_eq_true,decide_eq_true_eq];omega
 ·show(decide (_≤_)&&decide (_≤_))=true
  simp only[Bool.and_eq_true,decide_eq_true_eq];show 0≤w / 1048576%32∧w / 1048576%32≤31;omega
 ·show(decide (_≤_)&&decide (_<_))=true
  simp only[Bool.and_eq_true,decide_eq_true_eq];show 0≤w / 4096∧w / 4096<1048576;omega
 ·have:=hs (n:=w / 1048576%32+w / 33554432*32) (m:=2048) (by omega) (by omega);show(decide (_≤sgR _ _)&&decide (sgR _ _≤_))=true
  simp only[Bool.and_eq_true,decide_eq_true_eq];omega
 ·have:=hs (n:=w / 128%32+w / 33554432*32) (m:=2048) (by omega) (by omega);show(decide (_≤sgR _ _)&&decide (sgR _ _≤_))=true
  simp only[Bool.and_eq_true,decide_eq_true_eq];omega
 ·obtain⟨u1,u2,u3⟩:=B6M (d:=w / 128%32) (s:=w / 33554432) (by omega) (by omega);have:=hs (n:=w / 128%32 / 2*2+w / 33554432%64*32+w / 128%32%2*2048+w / 33554432 / 64*4096) (m:=4096) u1 u2;clear hs;show(decide (_≤sgR _ _)&&(decide (sgR _ _≤_)&&sgR _ _%2==0))=true
  simp only[Bool.and_eq_true,decide_eq_true_eq,beq_iff_eq];omega
 ·obtain⟨u1,u2,u3⟩:=B6L (d:=w / 1048576%32) (s:=w / 33554432) (t:=w / 4096%256) (by omega) (by omega) (by omega);have:=hs (n:=w / 1048576%32 / 2*2+w / 33554432%64*32+w / 1048576%32%2*2048+w / 4096%256*4096+w / 33554432 / 64*1048576) (m:=1048576) u1 u2;clear hs;show(decide (_≤sgR _ _)&&(decide (sgR _ _≤_)&&sgR _ _%2==0))=true
  simp only[Bool.and_eq_true,decide_eq_true_eq,beq_iff_eq];omega
 ·have:=hs (n:=w / 1048576%32+w / 33554432*32) (m:=2048) (by omega) (by omega);show(decide (_≤sgR _ _)&&decide (sgR _ _≤_))=true
  simp only[Bool.and_eq_true,decide_eq_true_eq];omega
 ·rfl
theorem A9z{h:Bool}{r:Int}(h0:0≤r∧r<32)(hz:h=false→r=0):rgR h r=true:=by
 unfold rgR;simp only[Bool.and_eq_true,Bool.or_eq_true,decide_eq_true_eq,beq_iff_eq];cases h
 ·exact⟨by omega,by omega,.inr (hz rfl)⟩
 ·exact⟨by omega,by omega,.inl rfl⟩
theorem Z7{o w:Int}(h0:0≤w)(h1:w<4294967296)(ho:0≤o∧o≤40):okR (fdR o w)=true:=by
 have hf:0≤fmR o∧fmR o≤9:=by have:=I7 o ho.1 ho.2;omega
 unfold okR;show(rgR (hdR (fmR o)) (if hdR (fmR o)then _ else 0)&&(rgR (haR (fmR o)) (if haR (fmR o)then _ else 0)&&(rgR (hbR (fmR o)) (if hbR (fmR o)then _ else 0)&&(decide (fmR o≠10)&&fiR (fmR o) (imR (fmR o) w)))))=true
 rw[A8r h0 h1 hf];have g:∀(b:Bool) (n:Int),0≤n∧n<32→rgR b (if b then n else 0)=true:=fun b n hn=>by
  cases b
  ·exact A9z (by simp) (fun _=>rfl)
  ·exact A9z hn (fun e=>by cases e)
 rw[g _ _ (by omega),g _ _ (by omega),g _ _ (by omega)];simp;omega
theorem B1m(c t s:Int):0≤opR c t s∧opR c t s≤41:=by
 unfold opR
 repeat' split
 all_goals omega
theorem A7Z{w:Int}(h0:0≤w)(h1:w<4294967296){x:Rv}(h:P8 w=some x):okR x=true∧C7 x=w:=by
 unfold P8 at h;by_cases e1:w=115
 ·rw[if_pos e1]at h;cases h;exact⟨by decide,by rw[e1];rfl⟩
 rw[if_neg e1]at h;by_cases e2:w=1048691
 ·rw[if_pos e2]at h;cases h;exact⟨by decide,by rw[e2];rfl⟩
 rw[if_neg e2]at h;by_cases e3:opR (w%128) (w / 4096%8) (w / 33554432)=41
 ·rw[if_pos e3]at h;cases h
 rw[if_neg e3]at h;by_cases e4:C7 (fdR (opR (w%128) (w / 4096%8) (w / 33554432)) w)=w
 ·rw[if_pos e4]at h;cases h;have:=B1m (w%128) (w / 4096%8) (w / 33554432);exact⟨Z7 h0 h1 (by omega),e4⟩
 ·rw[if_neg e4]at h;cases h
theorem A7W{x:Rv}(h:okR x=true):0≤C7 x∧C7 x<4294967296:=by
 obtain⟨o0,o1⟩:=A0A h;obtain⟨⟨t0,t1⟩,hsv,-⟩:=M3 o0 o1;unfold okR at h;simp only[Bool.and_eq_true]at h;obtain⟨hd,ha,hb,hf,hi⟩:=h;obtain⟨⟨d0,d1⟩,-⟩:=U6 hd;obtain⟨⟨a0,a1⟩,-⟩:=U6 ha;obtain⟨⟨b0,b1⟩,-⟩:=U6 hb;obtain⟨-,-,i2,-⟩:=B0L hi;have key:∀c d t a b s:Int,0≤c∧c<128→0≤d∧d<32→0≤t∧t<8→0≤a∧a<32→0≤b∧b<32→0≤s∧s<128→0≤asm c d t a b s∧asm c d t a b s<4294967296:=fun c d t a b s g1 g2 g3 g4 g5 g6=>(R6 g1 g2 g3 g4 g5 g6).2.2.2.2.2.2
 clear hd ha hb hf hi;unfold C7;rcases I7 x.o o0 o1 with⟨f,ho⟩|⟨f,ho⟩|⟨f,ho⟩|⟨f,ho⟩|⟨f,ho⟩|⟨f,ho⟩|⟨f,ho⟩|⟨f,ho⟩|⟨f,ho⟩|⟨f,ho⟩<;>rw[f]
 ·exact key 51 _ _ _ _ _ (by omega) (by omega) (by omega) (by omega) (by omega) (by omega)
 ·exact key 19 _ _ _ _ _ (by omega) (by omega) (by omega) (by omega) (by omega) (by omega)
 ·have:=i2 f;exact key 19 _ _ _ _ _ (by omega) (by omega) (by omega) (by omega) (by omega) (by omega)
 ·exact key 55 _ _ _ _ _ (by omega) (by omega) (by omega) (by omega) (by omega) (by omega)
 ·exact key 3 _ _ _ _ _ (by omega) (by omega) (by omega) (by omega) (by omega) (by omega)
 ·exact key 35 _ _ _ _ _ (by omega) (by omega) (by omega) (by omega) (by omega) (by omega)
 ·exact key 99 _ _ _ _ _ (by omega) (by omega) (by omega) (by omega) (by omega) (by omega)
 ·exact key 111 _ _ _ _ _ (by omega) (by omega) (by omega) (by omega) (by omega) (by omega)
 ·exact key 103 _ _ _ _ _ (by omega) (by omega) (by omega) (by omega) (by omega) (by omega)
 ·show 0≤(if x.o=40 then(1048691:Int)else 115)∧(if x.o=40 then(1048691:Int)else 115)<4294967296
  split<;>omega
end Go.Proofs.YtajljbmeaeeknaaGreat
namespace Go.Proofs.YtajljbmeaeeknaaGreat
open Go.RowKit
def Q1(w:World)(r:Nat):Option (Array MapEntry×Nat):=match w.heap[r]? with|some (.map es c)=>some (es,c)|_=>none
def L4(w:World)(r:Nat)(es:Array MapEntry)(c:Nat):World:={w with heap:=w.heap.setIfInBounds r (.map es c)}
theorem V3(w:World)(es:Array MapEntry)(c n:Nat)(hn:n=w.heap.size):Q1 (w.alloc (.map es c)) n=some (es,c):=by
 subst hn;unfold Q1;rw[show(w.alloc (.map es c)).heap[w.heap.size]? =some (.map es c)from Array.getElem?_push_size]
theorem p5(w:World)(o:Obj)(n:Nat)(hn:n<w.heap.size):Q1 (w.alloc o) n=Q1 w n:=by
 unfold Q1;rw[Below.heap_alloc w o n hn]
theorem A3I(w:World)(n:Nat):Q1 w.drew n=Q1 w n:=rfl
theorem A1v(w:World)(n k:Nat):Q1 (w.drewN k) n=Q1 w n:=rfl
theorem u9(w:World)(es es':Array MapEntry)(c c' n:Nat)(hn:n=w.heap.size):L4 (w.alloc (.map es c)) n es' c'=w.alloc (.map es' c'):=by
 subst hn;have h:(w.heap.push (.map es c)).setIfInBounds w.heap.size (.map es' c')=w.heap.push (.map es' c'):=by
  apply Array.ext_getElem?;intro i;rw[Array.getElem?_setIfInBounds,Array.getElem?_push,Array.getElem?_push];by_cases hi:i=w.heap.size
  ·subst hi;simp
  ·rw[if_neg (fun e=>hi e.symm),if_neg hi,if_neg hi]
 exact congrArg (fun x=>{w with heap:=x}) h
theorem O3(w:World)(o:Obj)(n:Nat)(es:Array MapEntry)(c:Nat)(hn:n<w.heap.size):L4 (w.alloc o) n es c=(L4 w n es c).alloc o:=by
 have h:(w.heap.push o).setIfInBounds n (.map es c)=(w.heap.setIfInBounds n (.map es c)).push o:=by
  apply Array.ext_getElem?;intro i;rw[Array.getElem?_setIfInBounds,Array.getElem?_push,Array.getElem?_push,Array.getElem?_setIfInBounds,Array.size_push,Array.size_setIfInBounds];by_cases hi:i=w.heap.size
  ·subst hi;rw[if_neg (by omega),if_pos rfl,if_pos rfl]
  ·rw[if_neg hi,if_neg hi];by_cases h2:n=i
   ·rw[if_pos h2,if_pos h2,if_pos (by omega),if_pos hn]
   ·rw[if_neg h2,if_neg h2]
 exact congrArg (fun x=>{w with heap:=x}) h
theorem s8(w:World)(n:Nat)(es:Array MapEntry)(c:Nat):(L4 w n es c).heap.size=w.heap.size:=by simp[L4]
attribute [go_sem] V3 p5 A3I A1v u9 O3 s8
theorem U1{w:World}{r:Nat}{es:Array MapEntry}{c:Nat}(h:Q1 w r=some (es,c)):w.heap[r]? =some (.map es c):=by
 unfold Q1 at h
 split at h
 ·rename_i h1;simp at h;obtain⟨rfl,rfl⟩:=h;exact h1
 ·cases h
theorem A2X(k:TypeDesc)(v:Value)(i:Nat):Instr.findNow k v [] i=some none:=rfl
theorem A2Y(kk:IntKind)(n m:Int)(v:Value)(b:Nat)(es:List MapEntry)(i:Nat):
  Instr.findNow (.int kk) (.int kk n) (⟨.int kk m,v,b⟩::es) i=if n=m then some (some (i,v))else Instr.findNow (.int kk) (.int kk n) es (i+1):=by
 by_cases h:n=m
 ·subst h;simp[Instr.findNow,Instr.sameNow]
 ·have:(n==m)=false:=by simpa using h
  simp[Instr.findNow,Instr.sameNow,h,this]
attribute [go_sem] A2X A2Y
def Only(b:Nat)(w w':World):Prop:=w.heap.size≤w'.heap.size∧∀k,k<w.heap.size→k≠b→w'.heap[k]? =w.heap[k]?
theorem Only.refl(b:Nat)(w:World):Only b w w:=⟨Nat.le_refl _,fun _ _ _=>rfl⟩
theorem Only.alloc{b:Nat}{w w':World}(h:Only b w w')(o:Obj):Only b w (w'.alloc o):=
 ⟨Nat.le_trans h.1 (by simp),fun k h1 h2=>(Below.heap_alloc w' o k (Nat.lt_of_lt_of_le h1 h.1)).trans (h.2 k h1 h2)⟩
theorem Only.setCell{b:Nat}{w w':World}(h:Only b w w'){a:Addr}(ha:a.block=b)(v:Value):Only b w (w'.setCell a v):=
 ⟨Nat.le_trans h.1 (by simp[World.setCell]),fun k h1 h2=>(Below.heap_setCell w' a v k (by rw[ha];exact h2)).trans (h.2 k h1 h2)⟩
theorem Only.at{b:Nat}{w w':World}(h:Only b w w')(o:Nat)(v:Value):Only b w (w'.setCell ⟨b,o,none⟩ v):=h.setCell rfl v
theorem A6{B b:Nat}{w w':World}(h:Below B w w')(hb:B≤b)(o:Nat)(v:Value):Below B w (w'.setCell ⟨b,o,none⟩ v):=Below.setCell h hb v
theorem E1{B:Nat}{w w':World}(h:Below B w w')(n:Nat):Below B w (w'.drewN n):=h.trans ⟨rfl,rfl,rfl,Nat.le_refl _,fun _ _=>rfl⟩
theorem Only.drew{b:Nat}{w w':World}(h:Only b w w'):Only b w w'.drew:=h
theorem Only.drewN{b:Nat}{w w':World}(h:Only b w w')(n:Nat):Only b w (w'.drewN n):=h
theorem Only.cell{b:Nat}{w w':World}(h:Only b w w'){k o:Nat}(hk:k<w.heap.size)(hb:k≠b):w'.cell? ⟨k,o,none⟩=w.cell? ⟨k,o,none⟩:=by
 unfold World.cell?;rw[h.2 k hk hb]
theorem B0d{W w1:World}(hb:Below W.heap.size W w1):(∀b o,b<W.heap.size→w1.cell? ⟨b,o,none⟩=W.cell? ⟨b,o,none⟩)∧(∀b o,b<W.heap.size→w1.frozen? ⟨b,o,none⟩=W.frozen? ⟨b,o,none⟩):=
 ⟨fun b o h=>hb.cell (p:=⟨b,o,none⟩) h,fun b o h=>hb.frozen (p:=⟨b,o,none⟩) h⟩
theorem C9{w w1:World}{cs:Array Value}{T:TypeId}(hb:Below (w.alloc (.cells cs T)).heap.size (w.alloc (.cells cs T)) w1)(i:Nat):w1.cell? ⟨w.heap.size,i,none⟩=cs[i]? :=by
 rw[(B0d hb).1 _ _ (by simp)];simp[go_sem]
theorem C5{w w1:World}{o:Obj}(hb:Below (w.alloc o).heap.size (w.alloc o) w1):Below w.heap.size w w1:=((Below.refl _ _).alloc (Nat.le_refl _) _).trans (hb.mono (by simp))
theorem J4{B:Nat}{w w1 w2:World}(h1:Below B w w1)(hB:B≤w1.heap.size)(h2:Below w1.heap.size w1 w2):Below B w w2:=h1.trans (h2.mono hB)
theorem A7{w w1 w2:World}(h1:Below w.heap.size w w1)(h2:Below w1.heap.size w1 w2):Below w.heap.size w w2:=J4 h1 h1.size h2
end Go.Proofs.YtajljbmeaeeknaaGreat
namespace Go.Proofs.YtajljbmeaeeknaaGreat
open Go.RowKit
set_option linter.unusedVariables false
set_option linter.unusedSimpArgs false
def Slc(w:World)(v:Value)(n z:Nat)(C:Nat→Nat→Nat→Prop):Prop:=
 ∃(a:Option Addr) (c:Nat),v= .slice a n c∧n≤c∧(n≤140737488351232∧c≤9223372036854775807)∧(a=none→c=0)∧∀i,i<n→∃b o,a=some ⟨b,o,none⟩∧b<w.heap.size∧C i b (o+i*z)
def Ints(k:IntKind)(w:World)(v:Value)(xs:List Int):Prop:=Slc w v xs.length 1 fun i b o=>w.cell? ⟨b,o,none⟩=some (.int k (xs.getD i 0))
structure Nd where
 op:Int
 width:Int
 flags:Int
 args:List Int
 imm:Int
 deriving Inhabited
def NdAt(w:World)(b o:Nat)(x:Nd):Prop:=
 w.cell? ⟨b,o,none⟩=some (.int .i64 x.op)∧w.cell? ⟨b,o+1,none⟩=some (.int .i64 x.width)∧w.cell? ⟨b,o+2,none⟩=some (.int .i64 x.flags)∧
 (∃v,w.cell? ⟨b,o+3,none⟩=some v∧Ints .i64 w v x.args)∧w.cell? ⟨b,o+4,none⟩=some (.int .u32 x.imm)
def Nds(w:World)(v:Value)(ts:List Nd):Prop:=Slc w v ts.length 5 fun i b o=>NdAt w b o (ts.getD i default)
theorem A0{B:Nat}{w w':World}(h:Below B w w'){b o:Nat}{v:Value}(hb:b<B)(hc:w.cell? ⟨b,o,none⟩=some v):w'.cell? ⟨b,o,none⟩=some v:=by
 rw[←hc];exact h.cell (p:=⟨b,o,none⟩) hb
theorem F9{w:World}{b o:Nat}{v:Value}(h:w.cell? ⟨b,o,none⟩=some v):b<w.heap.size:=by
 unfold World.cell? at h;by_cases hb:b<w.heap.size
 ·exact hb
 ·simp[Array.getElem?_eq_none (Nat.le_of_not_lt hb)]at h
theorem Slc.stays{w w':World}{v:Value}{n z:Nat}{C C':Nat→Nat→Nat→Prop}(h:Slc w v n z C)(hb:Below w.heap.size w w')(hC:∀i b o,b<w.heap.size→C i b o→C' i b o):Slc w' v n z C':=by
 obtain⟨a,c,e,h1,h2,h3,h4⟩:=h;refine⟨a,c,e,h1,h2,h3,fun i hi=>?_⟩;obtain⟨b,o,e1,e2,e3⟩:=h4 i hi;exact⟨b,o,e1,Nat.lt_of_lt_of_le e2 hb.size,hC i b _ e2 e3⟩
theorem Ints.stays{k:IntKind}{w w':World}{v:Value}{xs:List Int}(h:Ints k w v xs)(hb:Below w.heap.size w w'):Ints k w' v xs:=
 Slc.stays h hb fun _ _ _ hlt hc=>A0 hb hlt hc
theorem NdAt.stays{w w':World}{b o:Nat}{x:Nd}(h:NdAt w b o x)(hlt:b<w.heap.size)(hb:Below w.heap.size w w'):NdAt w' b o x:=by
 obtain⟨h1,h2,h3,⟨v,h4,h5⟩,h6⟩:=h;exact⟨A0 hb hlt h1,A0 hb hlt h2,A0 hb hlt h3,⟨v,A0 hb hlt h4,h5.stays hb⟩,A0 hb hlt h6⟩
theorem Nds.stays{w w':World}{v:Value}{ts:List Nd}(h:Nds w v ts)(hb:Below w.heap.size w w'):Nds w' v ts:=
 Slc.stays h hb fun _ _ _ hlt hc=>hc.stays hlt hb
def RowI(w:World)(base:Nat)(e:TypeId)(k:IntKind)(v:Value)(xs:List Int):Prop:=w.ownsRow base e 1 v xs.length (xs.map (Value.int k))
theorem RowI.ints{w:World}{base:Nat}{e:TypeId}{k:IntKind}{v:Value}{xs:List Int}(h:RowI w base e k v xs)(hl:xs.length≤140737488351232):Ints k w v xs:=by
 obtain⟨_,⟨rfl,h0⟩|⟨g,cap,cur,rfl,hb,hg,h1,h2,h3,h4⟩⟩:=h
 ·exact⟨none,0,by rw[h0],by omega,by omega,fun _=>rfl,fun i hi=>absurd hi (by omega)⟩
 ·refine⟨some ⟨g,0,none⟩,cap,rfl,h1,⟨hl,by unfold maxLen at h2;omega⟩,(fun hh=>by cases hh),fun i hi=>⟨g,0,rfl,?_,?_⟩⟩
  ·rcases Nat.lt_or_ge g w.heap.size with h|h
   ·exact h
   ·rw[Array.getElem?_eq_none h]at hg;cases hg
  ·rw[Nat.mul_one,Nat.zero_add];have e1:w.cell? ⟨g,i,none⟩=cur.toList[i]? :=by simp[World.cell?,hg]
   have e2:(cur.toList.take (xs.length*1))[i]? =cur.toList[i]? :=by rw[List.getElem?_take,if_pos (by omega)]
   show w.cell? ⟨g,i,none⟩=_
   rw[e1,←e2,h4,List.getElem?_map,List.getElem?_eq_getElem hi,List.getD_eq_getElem?_getD,List.getElem?_eq_getElem hi];rfl
theorem RowI.nil(w:World)(base:Nat)(e:TypeId)(k:IntKind):RowI w base e k (.slice none 0 0) []:=World.ownsRow_nil w base e 1
theorem RowI.below{w w':World}{base:Nat}{e:TypeId}{k:IntKind}{v:Value}{xs:List Int}(h:RowI w base e k v xs)(hb:Below w.heap.size w w'):RowI w' base e k v xs:=by
 obtain⟨h0,⟨rfl,h1⟩|⟨g,cap,cur,rfl,hb',hg,h1,h2,h3,h4⟩⟩:=h
 ·exact⟨h0,.inl ⟨rfl,h1⟩⟩
 ·refine⟨h0,.inr ⟨g,cap,cur,rfl,hb',?_,h1,h2,h3,h4⟩⟩;have hlt:g<w.heap.size:=by
   rcases Nat.lt_or_ge g w.heap.size with h|h
   ·exact h
   ·rw[Array.getElem?_eq_none h]at hg;cases hg
  rw[←hg];exact hb.block g hlt
theorem RowI.shape{w:World}{base:Nat}{e:TypeId}{k:IntKind}{v:Value}{xs:List Int}(h:RowI w base e k v xs):∃a c,v= .slice a xs.length c:=by
 obtain⟨_,⟨rfl,h1⟩|⟨g,cap,cur,rfl,_⟩⟩:=h
 ·exact⟨none,0,by rw[h1]⟩
 ·exact⟨_,_,rfl⟩
theorem RowI.app{w:World}{base:Nat}{e:TypeId}{k:IntKind}{v:Value}{xs ys zs:List Int}{n:Nat}(h:w.ownsRow base e 1 v n (xs.map (Value.int k)++ys.map (Value.int k)))(hn:n=xs.length+ys.length)(hz:zs=xs++ys):RowI w base e k v zs:=by
 subst hz;subst hn;unfold RowI;rw[List.length_append,List.map_append];exact h
theorem RowI.app1{w:World}{base:Nat}{e:TypeId}{k:IntKind}{v:Value}{l zs:List Int}{y:Int}{j:Nat}(h:w.ownsRow base e 1 v (j+1) (l.map (Value.int k)++[.int k y]))(hl:l.length=j)(hz:zs=l++[y]):RowI w base e k v zs:=
 RowI.app (ys:=[y]) h (by rw[hl];rfl) hz
theorem V1{w:World}{base:Nat}{e:TypeId}{size:Nat}{v:Value}{n:Nat}{xs:List Value}(h:w.ownsRow base e size v n xs):∀k,v.ownBlock=some k→base≤k:=fun k hk=>(h.lt k hk).1
end Go.Proofs.YtajljbmeaeeknaaGreat
namespace Go.Proofs.YtajljbmeaeeknaaGreat
set_option linter.unusedVariables false
set_option linter.unusedSimpArgs false
structure In(C:World→Prop) where
 w:World
 h:C w
section
variable {P : Program} {ops : Array Oper} {md : Region.Mode} {C : World → Prop}
def V6(P:Program)(md:Region.Mode)(ops:Array Oper)(C:World→Prop)(n:Nat)(L:Array Bool→Act→Prop):Nat→Array Bool→Act→Prop
 |0,s,a=>L s a
 |f+1,s,a=>Region.ready md ops s≠[]∧∀i∈Region.ready md ops s,i<n∧qOp P ops C i (V6 P md ops C n L f (s.setIfInBounds i true)) a
theorem A7e{n g:Nat}{L:Array Bool→Act→Prop}{Q:Exit→Act→World→Prop}(hL:∀s a w,C w→L s a→wpAny P md ops Q g s a w)(f:Nat):
  ∀(s:Array Bool) (a:Act) (w:World),C w→V6 P md ops C n L f s a→wpAny P md ops Q (f+g) s a w:=by
 induction f with
 |zero=>intro s a w hw h;rw[Nat.zero_add];exact hL s a w hw h
 |succ f ih=>
  intro s a w hw h;rw[show f+1+g=(f+g)+1 by omega];exact⟨fun h0=>absurd h0 h.1,fun i hi=>wpOp_of_qOp hw (fun a' w' hw' h'=>ih _ a' w' hw' h') (h.2 i hi).2⟩
theorem A3f{n i:Nat}{oi:Oper}{v:Value}{L:Array Bool→Act→Prop}(hi:ops[i]? =some oi)(hsel:∀(j:Nat) (o:Oper) cs b,ops[j]? =some o→o.op≠ .select cs b)
  (hs:Region.sinkB md ops n=true) (hc:Region.chainB md ops n=true) (hn:n<ops.size) (hin:i<n)
  (hdone:∀s a,L s a→∀j∈Region.ready md ops s,n≤j) (f:Nat):
  ∀(s:Array Bool) (a:Act),HeadInv md ops n s→
   (∀j oj,ops[j]? =some oj→j≠i→s.getD j true=false→(∀e∈oj.after,Region.binds md e=true→e.on≠i)→oi.apart ops oj=true)→
   i∈Region.ready md ops s→YieldsIn P ops C oi v a→
   V6 P md ops C n L f (s.setIfInBounds i true) (a.put oi.dst v)→V6 P md ops C n L (f+1) s a:=by
 have low:∀s:Array Bool,HeadInv md ops n s→i∈Region.ready md ops s→∀j∈Region.ready md ops s,j<n:=fun s inv hr j hj=>by
  rcases Nat.lt_or_ge j n with h|h
  ·exact h
  ·exact absurd hj (tail_waits hs hc hn inv _ i rfl hin (mem_ready.1 hr).1 j h)
 induction f with
 |zero=>
  intro s a inv _ hr hy H;refine⟨List.ne_nil_of_mem hr,fun j hj=>⟨low s inv hr j hj,?_⟩⟩;by_cases hji:j=i
  ·subst hji;exact hy.qOp hi H
  ·have h1:=hdone _ _ H j (ready_mono hj hji);have h2:=low s inv hr j hj;omega
 |succ f ih=>
  intro s a inv hfree hr hy H;refine⟨List.ne_nil_of_mem hr,fun j hj=>⟨low s inv hr j hj,?_⟩⟩;by_cases hji:j=i
  ·subst hji;exact hy.qOp hi H
  ·have h1:=(H.2 j (ready_mono hj hji)).2;obtain⟨hjun,oj,hoj,hall⟩:=mem_ready.1 hj;have hnot:∀e∈oj.after,Region.binds md e=true→e.on≠i:=fun e he hb heq=>by
    have h1:=hall e he hb;rw[heq,getD_both (mem_ready.1 hr).1]at h1;cases h1
   have h2:=qOp_put hoj (hfree j oj hoj hji hjun hnot) (fun cs b=>hsel i oi cs b hi) (fun cs b=>hsel j oj cs b hoj) hy h1;refine qOp_mono (fun a' h3=>ih (s.setIfInBounds j true) a' (inv.set hj (low s inv hr j hj)) (fun k ok hk hki hun hno=>?_) (ready_mono hr (Ne.symm hji)) h3.1 ?_) h2
   ·refine hfree k ok hk hki ?_ hno;by_cases hjk:j=k
    ·subst hjk;exact hjun
    ·rw[getD_set_ne true hjk]at hun;exact hun
   ·rw[Array.setIfInBounds_comm _ _ hji];exact h3.2
theorem A7d{n g:Nat}{Lq:Act→Prop}(hsel:Region.noSelect ops=true)(hs:Region.sinkB md ops n=true)(hc:Region.chainB md ops n=true)(hn:n<ops.size)(l:List Oper):
  ∀(k:Nat) (s:Array Bool) (a:Act),(∀j,j<l.length→l[j]? =ops[k+j]?)→k+l.length=n→HeadInv md ops n s→
  Region.lexHead md ops g l.length k s=true→wpQuiet P ops C Lq l a→
  V6 P md ops C n (fun s' a'=>Region.seqB md ops g n s'=true∧Lq a') l.length s a:=by
 induction l with
 |nil=>
  intro k s a _ hk _ hB h;obtain rfl:k=n:=by simpa using hk
  exact⟨by simpa[Region.lexHead]using hB,h⟩
 |cons o l ih=>
  intro k s a hl hk inv hB h;have h0:ops[k]? =some o:=by simpa using(hl 0 (by simp)).symm
  simp only[List.length_cons]at hk;simp only[List.length_cons,Region.lexHead,Bool.and_eq_true]at hB;obtain⟨⟨hr,hf⟩,hB'⟩:=hB;have hr':k∈Region.ready md ops s:=by simpa using hr
  have hq:qOp P ops C k (wpQuiet P ops C Lq l) a:=by unfold qOp;simp only[h0];exact h
  obtain⟨v,hy,hK⟩:=yieldsIn_of_qOp h0 hq;refine A3f h0 (Region.noSelect_spec hsel) hs hc hn (by omega) (fun s' a' hL=>seqB_ready hL.1) l.length s a inv (Region.free_spec h0 hf) hr' hy ?_;exact ih (k+1) _ _ (fun j hj=>by have:=hl (j+1) (by simp;omega);simpa[Nat.add_assoc,Nat.add_comm 1 j]using this) (by omega) (inv.set hr' (by omega)) hB' hK
end
section
variable {P : Program} {C : World → Prop} {id : Nat} {Q : Exit → Act → World → Prop} {a : Act} {w : World} {l : List Oper}
theorem A1p(C:World→Prop)(hm:P.follows .mixedOrders=true)(hB:Region.lexB .any l.toArray=true)(hC:C w.drew)
  (h:wpQuiet P l.toArray (fun w'=>∃s:In C,w'=s.w) (fun a'=>∀w',C w'→Q .normal a' w') l a):(Code.region id l.toArray true).wp P Q a w:=by
 refine wp_region_quiet (C:=fun w'=>∃s:In C,w'=s.w) hm hB ⟨⟨_,hC⟩,rfl⟩ ?_;have e:(fun a'=>∀w',(∃s:In C,w'=s.w)→Q .normal a' w')=fun a'=>∀w',C w'→Q .normal a' w':=by
  funext a'
  apply propext;exact⟨fun h w' hw=>h w' ⟨⟨w',hw⟩,rfl⟩,fun h w' ⟨s,hs⟩=>by rw[hs];exact h s.w s.h⟩
 rw[e];simpa using h
theorem L2(C:World→Prop)(n:Nat)(hm:P.follows .mixedOrders=true)(hB:Region.lexTailB .any l.toArray n=true)(hC:C w.drew)
  (h:wpQuiet P l.toArray (fun w'=>∃s:In C,w'=s.w) (fun a'=>∀w',C w'→wpList P l.toArray Q (l.drop n) a' w') (l.take n) a):(Code.region id l.toArray true).wp P Q a w:=by
 simp only[Region.lexTailB,Bool.and_eq_true,decide_eq_true_eq]at hB;obtain⟨⟨⟨⟨hsel,hn⟩,hs⟩,hc⟩,hlex⟩:=hB;have hn':n<l.length:=by simpa using hn
 have htl:(l.take n).length=n:=by simp;omega
 have hdl:(l.drop n).length=l.toArray.size-n:=by simp
 have inv0:HeadInv .any l.toArray n (Array.replicate l.toArray.size false):=
  ⟨by simp,fun j oj _ hl=>(by rw[getD_replicate_false]at hl;cases hl),fun t _ ht=>getD_in (by simpa using ht) (getD_replicate_false _ _)⟩
 have H:=A7d (md:=.any) (g:=l.toArray.size-n) hsel hs hc hn (l.take n) 0 _ a (fun j hj=>by
  have hj':j<n:=by rw[htl]at hj;exact hj
  simp[hj']) (by simpa using htl) inv0 (by rw[htl];exact hlex) h
 have R:=A7e (Q:=Q) (g:=l.toArray.size-n) (fun s a' w' hw' hL=>by
  obtain⟨x,rfl⟩:=hw';have:=wpAny_of_seq (md:=.any) (Q':=Q) (l.drop n) n s a' x.w (fun j=>by simp[List.getElem?_drop]) (by rw[hdl];exact hL.1) (hL.2 x.w x.h);rwa[hdl]at this) _ _ _ w.drew ⟨⟨_,hC⟩,rfl⟩ H
 refine wp_region_any hm ?_;rw[htl,show n+(l.toArray.size-n)=l.toArray.size by omega]at R;exact R
end
theorem Calls.calm{P:Program}{C:World→Prop}{f:FuncId}{args:Array Value}{s:In C}{v:Value}{R:World→Prop}(h:Calls P f args s.w fun e w'=>e= .returned v∧R w')(hR:∀w',R w'→C w'):
  Calls P f args s.w fun e w''=>e= .returned v∧∃t:In C,w''=t.w:=
 h.mono fun _ w' ⟨he,hr⟩=>⟨he,⟨⟨w',hR w' hr⟩,rfl⟩⟩
end Go.Proofs.YtajljbmeaeeknaaGreat
