/- -/
import Derived.Laws.AppendOwn
import Derived.Maps.AppendAt
import Derived.Laws.Bits128
import Derived.Test.YtajljbmeaeeknaaGreatA2
import Derived.Test.YtajljbmeaeeknaaGreatA9
open Go.Proofs.Tryz
open Go.Lib (hid)
set_option maxHeartbeats 1000000
namespace Go.Proofs.YtajljbmeaeeknaaGreat
open Go.RowKit Go.Maps
set_option linter.unusedVariables false
set_option linter.unusedSimpArgs false
theorem A4J{B M r:Nat}{mv:Value}{c:Mac}(w:World)(h:VM B M r mv c w)(hB:B≤w.heap.size):Calls prog 81 #[.pointer (some ⟨M,0,none⟩)] w (SvP B M r mv c (G4 c) w):=by
 by_cases hl:c.a.toNat+4≤c.m.length
 ·by_cases h4:c.a%4=0
  ·obtain⟨v0,v1⟩:=Q9 h.mb c.a.toNat;cases hd:P8 (w4 c.m c.a.toNat)with
   |none=>exact A5v w h hB hl h4 hd
   |some x=>
    obtain⟨hok,-⟩:=A7Z v0 v1 hd;have ho:=A0A hok;obtain⟨o,d,a,b,i⟩:=x;unfold okR at hok;simp only[Bool.and_eq_true]at hok;obtain⟨hd1,ha1,hb1,-⟩:=hok;obtain⟨⟨d0,d1⟩,-⟩:=U6 hd1;obtain⟨⟨a0,a1⟩,-⟩:=U6 ha1;obtain⟨⟨b0,b1⟩,-⟩:=U6 hb1;simp only at ho d0 d1 a0 a1 b0 b1;obtain⟨dn,rfl⟩:=Int.eq_ofNat_of_zero_le d0;obtain⟨an,rfl⟩:=Int.eq_ofNat_of_zero_le a0;obtain⟨bn,rfl⟩:=Int.eq_ofNat_of_zero_le b0;clear hd1 ha1 hb1 v0 v1;rcases(show(0≤o∧o≤14)∨(15≤o∧o≤20)∨(21≤o∧o≤23)∨(24≤o∧o≤24)∨(25≤o∧o≤27)∨(28≤o∧o≤30)∨(31≤o∧o≤36)∨(37≤o∧o≤37)∨(38≤o∧o≤38)∨(39≤o∧o≤40)by omega)with⟨p,q⟩|⟨p,q⟩|⟨p,q⟩|⟨p,q⟩|⟨p,q⟩|⟨p,q⟩|⟨p,q⟩|⟨p,q⟩|⟨p,q⟩|⟨p,q⟩
    ·exact A8M w h hB hl h4 o i dn an bn hd p q (by omega) (by omega) (by omega)
    ·exact A8L w h hB hl h4 o i dn an bn hd p q (by omega) (by omega) (by omega)
    ·exact A8K w h hB hl h4 o i dn an bn hd p q (by omega) (by omega) (by omega)
    ·exact A8J w h hB hl h4 o i dn an bn hd p q (by omega) (by omega) (by omega)
    ·exact A8I w h hB hl h4 o i dn an bn hd p q (by omega) (by omega) (by omega)
    ·exact A8H w h hB hl h4 o i dn an bn hd p q (by omega) (by omega) (by omega)
    ·exact A8G w h hB hl h4 o i dn an bn hd p q (by omega) (by omega) (by omega)
    ·exact A8F w h hB hl h4 o i dn an bn hd p q (by omega) (by omega) (by omega)
    ·exact A8E w h hB hl h4 o i dn an bn hd p q (by omega) (by omega) (by omega)
    ·exact A8D w h hB hl h4 o i dn an bn hd p q (by omega) (by omega) (by omega)
  ·exact A5s w h hB hl h4
 ·exact A5t w h hB hl
def L0:Nat→Mac→Mac×Nat
 |0,c=>(c,0)
 |k+1,c=>if c.e=0 then(match G4 c with
  |some c'=>((L0 k c').1,(L0 k c').2+1)
  |none=>({c with e:=3},0))else(c,0)
theorem N7{c:Mac}(h:c.e≠0)(k:Nat):L0 k c=(c,0):=by cases k<;>simp[L0,h]
theorem i9{c c':Mac}{k:Nat}(h:c.e=0)(h1:G4 c=some c'):L0 (k+1) c=((L0 k c').1,(L0 k c').2+1):=by simp[L0,h,h1]
theorem V0{c:Mac}{k:Nat}(h:c.e=0)(h1:G4 c=none):L0 (k+1) c=({c with e:=3},0):=by simp[L0,h,h1]
theorem A1m(n m:Nat):∀c:Mac,L0 (n+m) c=((L0 m (L0 n c).1).1,(L0 n c).2+(L0 m (L0 n c).1).2):=by
 induction n with
 |zero=>intro c;simp[L0]
 |succ n ih=>
  intro c;rw[show n+1+m=(n+m)+1 by omega];by_cases h:c.e=0
  ·cases h1:G4 c with
   |none=>
    rw[V0 h h1,V0 h h1];have e3:({c with e:=3}:Mac).e≠0:=by show(3:Int)≠0;decide
    rw[N7 e3];rfl
   |some c'=>
    rw[i9 h h1,i9 h h1,ih c'];simp only[Prod.mk.injEq,true_and];omega
  ·rw[N7 h,N7 h,N7 h];rfl
def P7(c:Mac)(k:Int):Int:=if 32768<c.m.length∨c.r.getD 0 0≠0∨k<0∨200000<k then 1 else if c.e≠0 then 9 else 0
end Go.Proofs.YtajljbmeaeeknaaGreat
namespace Go.Proofs.YtajljbmeaeeknaaGreat
set_option linter.unusedVariables false
set_option linter.unusedSimpArgs false
structure Ins where
 o:Int
 d:Int
 s:Int
 z:Int
 i:Int
 deriving DecidableEq,Inhabited
def leB(n:Int):Nat→List Int
 |0=>[]
 |k+1=>n%256::leB (n / 256) k
def rdB:List Int→Nat→Int
 |_,0=>0
 |[],_+1=>0
 |b::r,k+1=>b+256*rdB r k
theorem A8(n:Int)(k:Nat):(leB n k).length=k:=by
 induction k generalizing n with
 |zero=>rfl
 |succ k ih=>simp[leB,ih]
theorem A0q(n:Int)(k:Nat)(r:List Int):rdB (leB n k++r) k=n%256^k:=by
 induction k generalizing n with
 |zero=>simp[rdB,Int.emod_one]
 |succ k ih=>
  show n%256+256*rdB (leB (n / 256) k++r) k=_
  rw[ih];have hp:(0:Int)<256^k:=Int.pow_pos (by decide);have e:(256:Int)^(k+1)=256*256^k:=by rw[Int.pow_succ,Int.mul_comm]
  rw[e];have h1:=Int.emod_add_mul_ediv (n / 256) (256^k);have h2:=Int.emod_add_mul_ediv n 256;have h3:=Int.emod_nonneg (n / 256) (by omega:(256:Int)^k≠0);have h4:=Int.emod_lt_of_pos (n / 256) hp;have h5:=Int.emod_nonneg n (by decide:(256:Int)≠0);have h6:=Int.emod_lt_of_pos n (show(0:Int)<256 by decide);generalize n / 256=q at*
  have e2:n=(n%256+256*(q%256^k))+(256*256^k)*(q / 256^k):=by
   have:(256*256^k)*(q / 256^k)=256*(256^k*(q / 256^k)):=by rw[Int.mul_assoc]
   rw[this];omega
  generalize n%256=m at*
  generalize q%256^k=t at*
  generalize q / 256^k=u at*
  rw[e2,Int.add_mul_emod_self_left];refine(Int.emod_eq_of_lt (by omega) ?_).symm;have:256*t+256≤256*256^k:=by omega
  omega
def mrB(r m:Int):Int:=(192+8*r+m)%256
def mmB(r m i:Int):List Int:=(128+8*r+m)%256::leB i 4
def pwZ(z:Int):Int:=2^z.toNat
def sgB(n z:Int):Int:=if 2^(z.toNat-1)≤n then n-pwZ z else n
def isR(n:Int):Bool:=decide (0≤n)&&decide (n≤7)
def isL(n:Int):Bool:=decide (0≤n)&&decide (n≤3)
def isM(n:Int):Bool:=isR n&&(n !=4)
def isC(n:Int):Bool:=decide (0≤n)&&(decide (n≤15)&&(n !=10&&n !=11))
def isB(n:Int):Bool:=decide (-128≤n)&&decide (n≤127)
def I5(n:Int):Bool:=decide (-2147483648≤n)&&decide (n≤2147483647)
def inZ(n z:Int):Bool:=decide (0≤n)&&decide (n≤pwZ z-1)
def A0T(o:Int):Int:=
 if o=14 then 0 else if o=15 then 1 else if o=16∨o=21 then 4 else if o=17∨o=22 then 5 else if o=18∨o=26 then 6
 else if o=19∨o=23∨o=27 then 7 else if o=24 then 2 else if o=25 then 3 else -1
def B6N(o:Int):Int:=
 if o=7 then 1 else if o=8 then 9 else if o=9 then 33 else if o=10 then 41 else if o=11 then 49 else if o=12 then 57 else if o=13 then 133 else 0
def szI(o:Int):List Int:=
 if 0≤o∧o≤3 then[32,16]else if 4≤o∧o≤6 then[32]else if 7≤o∧o≤19 then[32,16]else if o=20 then[32]
 else if 21≤o∧o≤25 then[32,16]else if 26≤o∧o≤31 then[32]else if o=32∨o=33 then[8,32]else if 34≤o∧o≤36 then[32]else[]
def J0(x:Ins):Bool:=(x.z==8&&isB x.i)||(x.z==32&&I5 x.i)
def G7(x:Ins):Bool:=
 if x.o=0∨(7≤x.o∧x.o≤13)∨x.o=20 then isR x.d&&(isR x.s&&x.i==0)
 else if x.o=1∨(14≤x.o∧x.o≤19)then isR x.d&&(x.s==0&&inZ x.i x.z)
 else if x.o=2∨x.o=4∨x.o=5 then isR x.d&&(isM x.s&&I5 x.i)
 else if x.o=3 then isM x.d&&(isR x.s&&I5 x.i)
 else if x.o=6 then isM x.d&&(isL x.s&&I5 x.i)
 else if 21≤x.o∧x.o≤27 then isR x.d&&(x.s==0&&x.i==0)
 else if x.o=28∨x.o=34∨x.o=35∨x.o=36 then x.d==0&&(x.s==0&&x.i==0)
 else if x.o=29 then isL x.d&&(isC x.s&&x.i==0)
 else if x.o=30 then isR x.d&&(isL x.s&&x.i==0)
 else if x.o=31 then isR x.d&&(isR x.s&&isC x.i)
 else if x.o=32 then x.d==0&&(isC x.s&&J0 x)
 else if x.o=33 then x.d==0&&(x.s==0&&J0 x)
 else false
def okI(x:Ins):Bool:=(szI x.o).contains x.z&&G7 x
def B5(x:Ins):List Int:=
 if x.o=0 then[137,mrB x.s x.d]
 else if x.o=1 then(184+x.d)%256::leB x.i (x.z / 8).toNat
 else if x.o=2 then 139::mmB x.d x.s x.i
 else if x.o=3 then 137::mmB x.s x.d x.i
 else if x.o=4 then 15::182::mmB x.d x.s x.i
 else if x.o=5 then 15::183::mmB x.d x.s x.i
 else if x.o=6 then 136::mmB x.s x.d x.i
 else if 7≤x.o∧x.o≤13 then[B6N x.o,mrB x.s x.d]
 else if 14≤x.o∧x.o≤19 then(if -128≤sgB x.i x.z∧sgB x.i x.z≤127 then[131,mrB (A0T x.o) x.d,x.i%256]else 129::mrB (A0T x.o) x.d::leB x.i (x.z / 8).toNat)
 else if x.o=20 then[15,175,mrB x.d x.s]
 else if 21≤x.o∧x.o≤23 then[211,mrB (A0T x.o) x.d]
 else if 24≤x.o∧x.o≤27 then[247,mrB (A0T x.o) x.d]
 else if x.o=28 then[153]
 else if x.o=29 then[15,(144+x.s)%256,mrB 0 x.d]
 else if x.o=30 then[15,182,mrB x.d x.s]
 else if x.o=31 then[15,(64+x.i)%256,mrB x.d x.s]
 else if x.o=32 then(if x.z=8 then[(112+x.s)%256,x.i%256]else 15::(128+x.s)%256::leB x.i 4)
 else if x.o=33 then(if x.z=8 then[235,x.i%256]else 233::leB x.i 4)
 else if x.o=34 then[244]
 else if x.o=35 then[15,11]
 else if x.o=36 then[144]
 else[]
def K4(x:Ins):List Int:=if x.z=16 then 102::B5 x else B5 x
/-! ### reading -/
def sg8(n:Int):Int:=if 128≤n then n-256 else n
def G2(n:Int):Int:=if 2147483648≤n then n-4294967296 else n
def J1(c:Int):Int:=
 if c=1 then 7 else if c=9 then 8 else if c=33 then 9 else if c=41 then 10 else if c=49 then 11 else if c=57 then 12 else if c=133 then 13
 else if c=144 then 36 else if c=153 then 28 else if c=244 then 34 else -1
def D1(c r:Int):Int:=
 if c=129∨c=131 then(if r=0 then 14 else if r=1 then 15 else if r=4 then 16 else if r=5 then 17 else if r=6 then 18 else if r=7 then 19 else -1)
 else if c=211 then(if r=4 then 21 else if r=5 then 22 else if r=7 then 23 else -1)
 else(if r=2 then 24 else if r=3 then 25 else if r=6 then 26 else if r=7 then 27 else -1)
def rF(m:Int):Int:=m / 8%8
def mF(m:Int):Int:=m%8
def S5(c:List Int)(z:Int):Ins×Nat:=
 if c.getD 1 0=11 then(⟨35,0,0,z,0⟩,2)
 else if c.getD 1 0=175 then(⟨20,rF (c.getD 2 0),mF (c.getD 2 0),z,0⟩,3)
 else if c.getD 1 0=182∨c.getD 1 0=183 then
  (if c.getD 2 0 / 64=2 then(⟨c.getD 1 0-178,rF (c.getD 2 0),mF (c.getD 2 0),z,G2 (rdB (c.drop 3) 4)⟩,7)else(⟨30,rF (c.getD 2 0),mF (c.getD 2 0),z,0⟩,3))
 else if 64≤c.getD 1 0∧c.getD 1 0≤79 then(⟨31,rF (c.getD 2 0),mF (c.getD 2 0),z,c.getD 1 0-64⟩,3)
 else if 144≤c.getD 1 0∧c.getD 1 0≤159 then(⟨29,mF (c.getD 2 0),c.getD 1 0-144,z,0⟩,3)
 else if 128≤c.getD 1 0∧c.getD 1 0≤143 then(⟨32,0,c.getD 1 0-128,z,G2 (rdB (c.drop 2) 4)⟩,6)
 else(⟨-1,0,0,z,0⟩,2)
def N3(c:List Int)(z:Int):Ins×Nat:=
 if c.getD 1 0 / 64=2 then
  (if c.getD 0 0=139 then(⟨2,rF (c.getD 1 0),mF (c.getD 1 0),z,G2 (rdB (c.drop 2) 4)⟩,6)
  else if c.getD 0 0=137 then(⟨3,mF (c.getD 1 0),rF (c.getD 1 0),z,G2 (rdB (c.drop 2) 4)⟩,6)
  else(⟨6,mF (c.getD 1 0),rF (c.getD 1 0),z,G2 (rdB (c.drop 2) 4)⟩,6))
 else(⟨0,mF (c.getD 1 0),rF (c.getD 1 0),z,0⟩,2)
def Z5(c:List Int)(z:Int):Ins×Nat:=
 if c.getD 0 0=129 then(⟨D1 (c.getD 0 0) (rF (c.getD 1 0)),(if 0≤D1 (c.getD 0 0) (rF (c.getD 1 0))then mF (c.getD 1 0)else 0),0,z,rdB (c.drop 2) (z / 8).toNat⟩,2+(z / 8).toNat)
 else if c.getD 0 0=131 then(⟨D1 (c.getD 0 0) (rF (c.getD 1 0)),(if 0≤D1 (c.getD 0 0) (rF (c.getD 1 0))then mF (c.getD 1 0)else 0),0,z,sg8 (c.getD 2 0)%pwZ z⟩,3)
 else(⟨D1 (c.getD 0 0) (rF (c.getD 1 0)),(if 0≤D1 (c.getD 0 0) (rF (c.getD 1 0))then mF (c.getD 1 0)else 0),0,z,0⟩,2)
def gsP(c:List Int)(z:Int):Ins×Nat:=
 if 0≤J1 (c.getD 0 0)then(if c.getD 0 0<144 then(⟨J1 (c.getD 0 0),mF (c.getD 1 0),rF (c.getD 1 0),z,0⟩,2)else(⟨J1 (c.getD 0 0),0,0,z,0⟩,1))
 else if c.getD 0 0=137∨c.getD 0 0=136∨c.getD 0 0=139 then N3 c z
 else if 184≤c.getD 0 0∧c.getD 0 0≤191 then(⟨1,c.getD 0 0-184,0,z,rdB (c.drop 1) (z / 8).toNat⟩,1+(z / 8).toNat)
 else if c.getD 0 0=129∨c.getD 0 0=131∨c.getD 0 0=211∨c.getD 0 0=247 then Z5 c z
 else if 112≤c.getD 0 0∧c.getD 0 0≤127 then(⟨32,0,c.getD 0 0-112,8,sg8 (c.getD 1 0)⟩,2)
 else if c.getD 0 0=235 then(⟨33,0,0,8,sg8 (c.getD 1 0)⟩,2)
 else if c.getD 0 0=233 then(⟨33,0,0,z,G2 (rdB (c.drop 1) 4)⟩,5)
 else if c.getD 0 0=15 then S5 c z
 else(⟨-1,0,0,z,0⟩,1)
def Z0(b:List Int):Nat:=if b.getD 0 0=102 then 1 else 0
def Y7(b:List Int):Int:=if b.getD 0 0=102 then 16 else 32
def S8(b:List Int):Option (Ins×Nat):=
 if(Z0 b+(gsP (b.drop (Z0 b)) (Y7 b)).2≤b.length∧okI (gsP (b.drop (Z0 b)) (Y7 b)).1=true)∧K4 (gsP (b.drop (Z0 b)) (Y7 b)).1=b.take (Z0 b+(gsP (b.drop (Z0 b)) (Y7 b)).2)then
  some ((gsP (b.drop (Z0 b)) (Y7 b)).1,Z0 b+(gsP (b.drop (Z0 b)) (Y7 b)).2)else none
def nmR(c:List Int)(n k:Nat):Int:=if n+k≤c.length then rdB (c.drop n) k else 0
def T6(c:Int):Int:=
 if c=1 then 7 else if c=9 then 8 else if c=33 then 9 else if c=41 then 10 else if c=49 then 11 else if c=57 then 12 else if c=133 then 13 else if c=137 then 0 else -1
def U7(c:List Int):Ins:=
 if nmR c 1 1=11 then⟨35,0,0,32,0⟩
 else if nmR c 1 1=175 then⟨20,rF (nmR c 2 1),mF (nmR c 2 1),32,0⟩
 else if nmR c 1 1=182∧192≤nmR c 2 1 then⟨30,rF (nmR c 2 1),mF (nmR c 2 1),32,0⟩
 else if nmR c 1 1=182 then⟨4,rF (nmR c 2 1),mF (nmR c 2 1),32,G2 (nmR c 3 4)⟩
 else if nmR c 1 1=183 then⟨5,rF (nmR c 2 1),mF (nmR c 2 1),32,G2 (nmR c 3 4)⟩
 else if 144≤nmR c 1 1∧nmR c 1 1≤159 then⟨29,mF (nmR c 2 1),nmR c 1 1-144,32,0⟩
 else if 64≤nmR c 1 1∧nmR c 1 1≤79 then⟨31,rF (nmR c 2 1),mF (nmR c 2 1),32,nmR c 1 1-64⟩
 else if 128≤nmR c 1 1∧nmR c 1 1≤143 then⟨32,0,nmR c 1 1-128,32,G2 (nmR c 2 4)⟩
 else⟨-1,0,0,0,0⟩
def gsR(c:List Int)(z:Int):Ins:=
 if c.length=0 then⟨-1,0,0,0,0⟩
 else if nmR c 0 1=15 then U7 c
 else if nmR c 0 1=137∧128≤nmR c 1 1∧nmR c 1 1<192 then⟨3,mF (nmR c 1 1),rF (nmR c 1 1),z,G2 (nmR c 2 4)⟩
 else if nmR c 0 1=139 then⟨2,rF (nmR c 1 1),mF (nmR c 1 1),z,G2 (nmR c 2 4)⟩
 else if nmR c 0 1=136 then⟨6,mF (nmR c 1 1),rF (nmR c 1 1),z,G2 (nmR c 2 4)⟩
 else if 0≤T6 (nmR c 0 1)then⟨T6 (nmR c 0 1),mF (nmR c 1 1),rF (nmR c 1 1),z,0⟩
 else if 184≤nmR c 0 1∧nmR c 0 1≤191 then⟨1,nmR c 0 1-184,0,z,nmR c 1 (z / 8).toNat⟩
 else if nmR c 0 1=131 then⟨D1 131 (rF (nmR c 1 1)),mF (nmR c 1 1),0,z,sg8 (nmR c 2 1)%pwZ z⟩
 else if nmR c 0 1=129 then⟨D1 129 (rF (nmR c 1 1)),mF (nmR c 1 1),0,z,nmR c 2 (z / 8).toNat⟩
 else if nmR c 0 1=211 then⟨D1 211 (rF (nmR c 1 1)),mF (nmR c 1 1),0,z,0⟩
 else if nmR c 0 1=247 then⟨D1 247 (rF (nmR c 1 1)),mF (nmR c 1 1),0,z,0⟩
 else if 112≤nmR c 0 1∧nmR c 0 1≤127 then⟨32,0,nmR c 0 1-112,8,sg8 (nmR c 1 1)⟩
 else if nmR c 0 1=235 then⟨33,0,0,8,sg8 (nmR c 1 1)⟩
 else if nmR c 0 1=233 then⟨33,0,0,32,G2 (nmR c 1 4)⟩
 else if nmR c 0 1=153 then⟨28,0,0,z,0⟩
 else if nmR c 0 1=244 then⟨34,0,0,z,0⟩
 else if nmR c 0 1=144 then⟨36,0,0,z,0⟩
 else⟨-1,0,0,0,0⟩
end Go.Proofs.YtajljbmeaeeknaaGreat
namespace Go.Proofs.YtajljbmeaeeknaaGreat
open Go.RowKit
set_option linter.unusedVariables false
set_option linter.unusedSimpArgs false
theorem I9(n:Int)(w:World):Calls prog 173 #[.int .i64 n] w fun e w'=>e= .returned (.bool (isR n))∧w=w':=by
 unfold isR;cases h1:decide (0≤n)
 all_goals
  go_enter func173,ntmps173
  go_wp2
  go_ret;exact⟨rfl,rfl⟩
theorem p7(n:Int)(w:World):Calls prog 179 #[.int .i64 n] w fun e w'=>e= .returned (.bool (isL n))∧w=w':=by
 unfold isL;cases h1:decide (0≤n)
 all_goals
  go_enter func179,ntmps179
  go_wp2
  go_ret;exact⟨rfl,rfl⟩
theorem c8(n:Int)(w:World):Calls prog 187 #[.int .i64 n] w fun e w'=>e= .returned (.bool (isC n))∧w=w':=by
 unfold isC;cases h1:decide (0≤n)<;>cases h2:decide (n≤15)<;>cases h3:(n !=10)
 all_goals
  go_enter func187,ntmps187
  go_wp2
  go_ret;exact⟨rfl,rfl⟩
theorem J6(n a b:Int)(w:World):Calls prog 174 #[.int .i64 n,.int .i64 a,.int .i64 b] w fun e w'=>e= .returned (.bool (decide (a≤n)&&decide (n≤b)))∧w=w':=by
 cases h1:decide (a≤n)
 all_goals
  go_enter func174,ntmps174
  go_wp2
  go_ret;exact⟨rfl,rfl⟩
theorem N5(n:Int)(w:World):Calls prog 230 #[.int .i64 n] w fun e w'=>e= .returned (.bool (I5 n))∧w=w':=by
 unfold I5;go_enter func230,ntmps230;go_wp2_with(go_at_call 174;refine(J6 _ _ _ _).mono ?_;rintro e w' ⟨rfl,rfl⟩)
 go_ret;exact⟨rfl,rfl⟩
theorem U2(n:Int)(w:World):Calls prog 229 #[.int .i64 n] w fun e w'=>e= .returned (.bool (isM n))∧w=w':=by
 unfold isM;have C:=hid (I9 n w);cases h1:isR n<;>rw[h1]at C
 all_goals
  go_enter func229,ntmps229;go_wp2_with(go_at_call 173;refine C.out.mono ?_;rintro e w' ⟨rfl,rfl⟩)
  go_ret;exact⟨rfl,rfl⟩
def I64(n:Int):Prop:= -9223372036854775808≤n∧n≤9223372036854775807
theorem S7(r m:Int)(w:World):Calls prog 183 #[.int .i64 r,.int .i64 m] w fun e w'=>e= .returned (.int .u8 (mrB r m))∧w=w':=by
 go_enter func183,ntmps183
 go_wp2
 go_ret;exact⟨L6 (by unfold mrB wrap64;omega),rfl⟩
theorem R7(n c:Int)(k:Nat)(hk:k≤62)(hc:c=2^k-1):bits .and .i64 n c=n%2^k:=by
 have hp:(2:Nat)^k≤2^62:=Nat.pow_le_pow_right (by decide) hk;have hp0:0<(2:Nat)^k:=Nat.two_pow_pos k;have e:((2:Int)^k)=((2^k:Nat):Int):=by simp
 rw[e]at hc⊢;have hm:(BitVec.ofInt 64 c).toNat=2^k-1:=by
  rw[BitVec.toNat_ofInt,hc];generalize(2:Nat)^k=p at*
  have:((p:Int)-1)%((2^64:Nat):Int)=(p:Int)-1:=Int.emod_eq_of_lt (by omega) (by omega);rw[this];omega
 have key:(BitVec.ofInt 64 n&&&BitVec.ofInt 64 c).toNat=(n%((2^64:Nat):Int)).toNat%2^k:=by
  rw[BitVec.toNat_and,BitVec.toNat_ofInt,hm,Nat.and_two_pow_sub_one_eq_mod]
 show IntKind.i64.wrap ((BitVec.ofInt 64 n&&&BitVec.ofInt 64 c).toNat:Nat)=_
 rw[key,IntKind.wrap_i64];have hd:(2:Nat)^k∣2^64:=Nat.pow_dvd_pow 2 (by omega);have h1:=Nat.mod_lt (n%((2^64:Nat):Int)).toNat hp0;have h2:((((n%((2^64:Nat):Int)).toNat%2^k:Nat)):Int)=n%((2^k:Nat):Int):=by
  rw[Int.natCast_emod,Int.toNat_of_nonneg (Int.emod_nonneg _ (by decide)),Int.emod_emod_of_dvd _ (Int.natCast_dvd_natCast.2 hd)]
 rw[←h2];generalize(n%((2^64:Nat):Int)).toNat%2^k=t at*
 omega
theorem J2:(prog.info? 5).map (fun i=>(i.zero,i.size,i.bytes))=some (some (.int .u8 0),1,1):=by kernel_rfl
def shB(n:Int):Nat→Int
 |0=>n
 |j+1=>shB n j / 256
theorem A6h(n:Int)(j:Nat):leB n (j+1)=leB n j++[shB n j%256]:=by
 have e:∀(j:Nat) (n:Int),shB (n / 256) j=shB n (j+1):=by
  intro j
  induction j with
  |zero=>intro n;rfl
  |succ j ih=>intro n;show shB (n / 256) j / 256=shB n (j+1) / 256;rw[ih]
 induction j generalizing n with
 |zero=>rfl
 |succ j ih=>
  show n%256::leB (n / 256) (j+1)=n%256::(leB (n / 256) j++[shB n (j+1)%256])
  rw[ih,e]
theorem A8V{n:Int}(h:I64 n)(j:Nat):I64 (shB n j):=by
 unfold I64 at*
 induction j with
 |zero=>exact h
 |succ j ih=>show _≤shB n j / 256∧shB n j / 256≤_;omega
theorem I8(n:Int)(k:Nat)(w:World)(hn:I64 n)(hk:k≤8):Calls prog 163 #[.int .i64 n,.int .i64 (k:Int)] w fun e w'=>∃v,e= .returned v∧RowI w' w.heap.size 5 .u8 v (leB n k)∧Below w.heap.size w w':=by
 obtain⟨i0,hi0,hz0,hz1,hz2⟩:=info_parts J2;have HN:=hid hn;clear hn;go_enter func163,ntmps163;go_wp2_with fail
 go_loopw[0,5,7] (fun m v i wr=>∃j:Nat,j≤k∧m= .int .i64 (shB n j)∧i= .int .i64 j∧RowI wr w.heap.size 5 .u8 v (leB n j)∧Below w.heap.size w wr) (fun _ _ i _=>k-(intOf i).toNat)
 case atStart=>exact⟨0,Nat.zero_le _,rfl,rfl,RowI.nil _ _ _ _,Below.refl _ _⟩
 case round=>
  obtain⟨j,hj,rfl,rfl,hrow,hb⟩:=hrel;have hsz:=hb.size;have HB:=hid hb;clear hb;by_cases hlt:j<k
  ·have HS:=hid (A6h n j);have HT:Hid (shB n (j+1)=shB n j / 256):=rfl;have hq:=A8V HN.out j;unfold I64 at hq;have htl:=A8 n j;generalize shB n j=m at*
   generalize leB n j=l at*
   obtain⟨va,vc,rfl⟩:=hrow.shape;unfold RowI at hrow;rw[htl]at hrow⊢;have HO0:=hid hrow;have HTL:=hid htl;obtain⟨q1,q2⟩:=hq;clear htl hrow;go_wp2_with(at_builtin;refine wpList_append_own _ rfl _ _ 28 rfl w.heap.size 5 i0 (.int .u8 0) 1 1 underlying28 hi0 hz0 hz1 hz2 rfl (by decide) _ _ _ rfl (HO0.out.alloc _) ⟨wr.heap.size,0,none⟩ 1 1 [.int .u8 (m%256)] rfl rfl ?c1 ?c2 ?c3 ?c4 ?c5 ?_)
   case c1=>
    intro i u h;rcases i with _|i
    ·cases h;simp[go_sem,Addr.add]
    ·cases h
   case c2=>simp[Value.oneCell']
   case c3=>unfold maxLen;omega
   case c4=>omega
   case c5=>simp;omega
   intro v' w1 hown' hgrow _;have HO:=hid hown';have HG:=hid hgrow;clear hown' hgrow;go_wp2_with fail
   go_roundw
   case rel=>exact⟨j+1,by omega,by rw[HT.out],by go_num,RowI.app1 HO.out HTL.out HS.out,(HB.out.alloc (by omega) _).grown HG.out (by simp;omega) (V1 HO0.out)⟩
   case measure=>simp[intOf];omega
  ·obtain rfl:j=k:=by omega
   go_wp2_with fail
   go_ret;exact⟨_,rfl,hrow,HB.out⟩
theorem RowI.lit(w:World)(cs:Array Value)(xs:List Int)(k:IntKind)(e:TypeId)(base n:Nat)(hb:base≤w.heap.size)(hc:cs.toList=xs.map (Value.int k))(hn:n=xs.length)(hm:xs.length≤maxLen):
  RowI (w.alloc (.cells cs e)) base e k (.slice (some ⟨w.heap.size,0,none⟩) n n) xs:=by
 subst hn;have h:=World.ownsRow_lit (base:=base) (e:=e) (size:=1) w cs xs.length hb hm (by rw[←Array.length_toList,hc,List.length_map,Nat.mul_one]);unfold RowI;rw[←hc];exact h
theorem A6Y(r m i:Int)(w:World)(hi:I64 i):Calls prog 232 #[.int .i64 r,.int .i64 m,.int .i64 i] w fun e w'=>∃v,e= .returned v∧RowI w' w.heap.size 5 .u8 v (mmB r m i)∧Below w.heap.size w w':=by
 obtain⟨i0,hi0,hz0,hz1,hz2⟩:=info_parts J2;have HI:=hid hi;clear hi;have HR0:Hid (∀x,RowI (w.alloc (.cells #[.int .u8 x] 5)) w.heap.size 5 .u8 (.slice (some ⟨w.heap.size,0,none⟩) 1 1) [x]):=fun x=>RowI.lit w #[.int .u8 x] [x] .u8 5 w.heap.size 1 (Nat.le_refl _) rfl rfl (by unfold maxLen;simp)
 have C4:Hid (∀w,Calls prog 163 #[.int .i64 i,.int .i64 4] w fun e w'=>∃v,e= .returned v∧RowI w' w.heap.size 5 .u8 v (leB i 4)∧Below w.heap.size w w'):=fun w=>I8 i 4 w HI.out (by decide)
 go_enter func232,ntmps232;go_wp2_with fail
 refine(C4.out _).mono ?_;rintro e w2 ⟨v2,rfl,hr2,hb2⟩;have HR1:=hid (RowI.below (HR0.out _) hb2);clear HR0;obtain⟨a2,c2,rfl⟩:=hr2.shape;have hi2:=hr2.ints (by rw[A8];decide);have hl2:=A8 i 4;have HL2:=hid hl2;have hsz:w.heap.size+1≤w2.heap.size:=by have:=hb2.size;simpa using this
 have HB2:=hid (C5 hb2);obtain⟨b2,q2,ea,_⟩:=hi2.row (by rw[hl2];decide);subst ea;rw[hl2]at hi2;have HN2:=hid hi2.newsK;clear hr2 hi2 hl2 hb2;rw[HL2.out];go_wp2_with(at_builtin;refine wpList_append_own_at _ rfl _ _ 28 rfl w.heap.size 5 i0 (.int .u8 0) 1 1 underlying28 hi0 hz0 hz1 hz2 rfl (by decide) _ 1 _ rfl HR1.out ⟨b2,q2,none⟩ 4 c2 ((leB i 4).map (Value.int .u8)) rfl ?c0 HN2.out ?c2 ?c3 ?c4 ?c5 ?_)
 case c0=>rw[List.length_map,HL2.out]
 case c2=>intro u hu;obtain⟨x,_,rfl⟩:=List.mem_map.1 hu;rfl
 case c3=>unfold maxLen;decide
 case c4=>decide
 case c5=>omega
 intro v' w3 hown' hgrow _ _;have HO:=hid hown';have HG:=hid hgrow;clear hown' hgrow;go_wp2_with fail
 go_ret;refine⟨_,rfl,RowI.app (xs:=[_]) (ys:=leB i 4) HO.out (by rw[HL2.out];rfl) (by unfold mmB;simp only[List.cons_append,List.nil_append,List.cons.injEq,and_true];unfold wrap64;omega),(HB2.out).grown HG.out (by omega) (V1 HR1.out)⟩
theorem A4d{p:Prop}(h:p:=by
 go_wp2_with fail
 go_quiet((first|(go_at_call 173;exact E9 (C0.out _))|(go_at_call 174;exact E9 (C1.out _))))
 go_wp2_with fail
 go_ret;exact⟨rfl,E1 HB.out _⟩
 ):p:=h
theorem B1c{p:Prop}(h:p:=by
 go_enter func242,ntmps242;go_wp2_with(first|((with_reducible refine(C0.out _).mono ?_);rintro e w1 ⟨rfl,hb⟩;have q3:w1.cell? ⟨w.heap.size,3,none⟩=some (.int .i64 8):=C9 hb 3;have q4:w1.cell? ⟨w.heap.size,4,none⟩=some (.int .i64 i):=C9 hb 4)|((with_reducible first|refine(C1.out _).mono ?_|refine(C2.out _).mono ?_);rintro e w' ⟨rfl,rfl⟩))
 go_ret;exact⟨rfl,HB.out.trans (hb.mono (by simp))⟩
 ):p:=h
theorem B1b{p:Prop}(h:p:=by
 go_enter func242,ntmps242;go_wp2_with(first|((with_reducible refine(C0.out _).mono ?_);rintro e w1 ⟨rfl,hb⟩;have q3:w1.cell? ⟨w.heap.size,3,none⟩=some (.int .i64 8):=C9 hb 3;have q4:w1.cell? ⟨w.heap.size,4,none⟩=some (.int .i64 i):=C9 hb 4)|((with_reducible first|refine(C1.out _).mono ?_|refine(C2.out _).mono ?_);rintro e w' ⟨rfl,rfl⟩))
 go_ret;exact⟨rfl,HB.out.trans (hb.mono (by simp))⟩
 ):p:=h
theorem A4a{p:Prop}(h:p:=by
 go_wp2_with((with_reducible first|refine(C0.out _).mono ?_|refine(C1.out _).mono ?_);rintro e w' ⟨rfl,rfl⟩)
 go_ret;exact⟨rfl,HB.out⟩
 ):p:=h
theorem B1W{p:Prop}(h:p:=by
 go_enter func228,ntmps228;go_wp2_with((with_reducible first|refine(C0.out _).mono ?_|refine(C1.out _).mono ?_|refine(C2.out _).mono ?_);rintro e w' ⟨rfl,rfl⟩)
 go_ret;exact⟨rfl,HB.out⟩
 ):p:=h
theorem B1V{p:Prop}(h:p:=by
 go_enter func233,ntmps233;go_wp2_with((with_reducible first|refine(C0.out _).mono ?_|refine(C1.out _).mono ?_|refine(C2.out _).mono ?_);rintro e w' ⟨rfl,rfl⟩)
 go_ret;exact⟨rfl,HB.out⟩
 ):p:=h
theorem B1U{p:Prop}(h:p:=by
 go_enter func233,ntmps233;go_wp2_with((with_reducible first|refine(C0.out _).mono ?_|refine(C1.out _).mono ?_|refine(C2.out _).mono ?_);rintro e w' ⟨rfl,rfl⟩)
 go_ret;exact⟨rfl,HB.out⟩
 ):p:=h
theorem B1Q{p:Prop}(h:p:=by
 go_enter func191,ntmps191;go_wp2_with((with_reducible first|refine(C0.out _).mono ?_|refine(C1.out _).mono ?_|refine(C2.out _).mono ?_);rintro e w' ⟨rfl,rfl⟩)
 go_ret;exact⟨rfl,HB.out⟩
 ):p:=h
theorem B3t{p:Prop}(h:p:=by
 rw[h1]at C0;clear h1;go_enter func242,ntmps242;go_wp2_with(first|((with_reducible refine(C0.out _).mono ?_);rintro e w1 ⟨rfl,hb⟩;have q3:w1.cell? ⟨w.heap.size,3,none⟩=some (.int .i64 32):=C9 hb 3;have q4:w1.cell? ⟨w.heap.size,4,none⟩=some (.int .i64 i):=C9 hb 4)|((with_reducible first|refine(C1.out _).mono ?_|refine(C2.out _).mono ?_);rintro e w' ⟨rfl,rfl⟩))
 go_ret;exact⟨rfl,HB.out.trans (hb.mono (by simp))⟩
 ):p:=h
theorem B3s{p:Prop}(h:p:=by
 rw[h1]at C0;clear h1;go_enter func242,ntmps242;go_wp2_with(first|((with_reducible refine(C0.out _).mono ?_);rintro e w1 ⟨rfl,hb⟩;have q3:w1.cell? ⟨w.heap.size,3,none⟩=some (.int .i64 32):=C9 hb 3;have q4:w1.cell? ⟨w.heap.size,4,none⟩=some (.int .i64 i):=C9 hb 4)|((with_reducible first|refine(C1.out _).mono ?_|refine(C2.out _).mono ?_);rintro e w' ⟨rfl,rfl⟩))
 go_ret;exact⟨rfl,HB.out.trans (hb.mono (by simp))⟩
 ):p:=h
theorem B1M{p:Prop}(h:p:=by
 go_enter func186,ntmps186;go_wp2_with((with_reducible first|refine(C0.out _).mono ?_|refine(C1.out _).mono ?_);rintro e w' ⟨rfl,rfl⟩)
 go_ret;exact⟨rfl,HB.out⟩
 ):p:=h
theorem B1L{p:Prop}(h:p:=by
 go_enter func189,ntmps189;go_wp2_with((with_reducible first|refine(C0.out _).mono ?_|refine(C1.out _).mono ?_);rintro e w' ⟨rfl,rfl⟩)
 go_ret;exact⟨rfl,HB.out⟩
 ):p:=h
theorem B1H{p:Prop}(h:p:=by
 go_enter func238,ntmps238;go_wp2_with((with_reducible refine(C0.out _).mono ?_);rintro e w' ⟨rfl,rfl⟩)
 go_ret;exact⟨rfl,HB.out⟩
 ):p:=h
theorem B0G{p:Prop}(h:p:=by
 cases h0:isR d
 ·rw[h0]at C0;clear h0;go_enter func235,ntmps235;exact A4d
 ·rw[h0]at C0;clear h0;cases h1:(s==0)
  ·go_enter func235,ntmps235;exact A4d
  ·go_enter func235,ntmps235;exact A4d
 ):p:=h
theorem B0F{p:Prop}(h:p:=by
 cases h0:isR d
 ·rw[h0]at C0;clear h0;go_enter func172,ntmps172;exact A4d
 ·rw[h0]at C0;clear h0;cases h1:(s==0)
  ·go_enter func172,ntmps172;exact A4d
  ·go_enter func172,ntmps172;exact A4d
 ):p:=h
def L9(x:Ins):Value:=.agg #[.int .i64 x.o,.int .i64 x.d,.int .i64 x.s,.int .i64 x.z,.int .i64 x.i]
theorem A2S(o d s z i:Int)(w:World):Calls prog 226 #[.agg #[.int .i64 o,.int .i64 d,.int .i64 s,.int .i64 z,.int .i64 i]] w fun e w'=>e= .returned (.bool ((isR d)&&((isR s)&&(i==0))))∧Below w.heap.size w w':=by
 have HB:=hid ((Below.refl w.heap.size w).alloc (Nat.le_refl _) (.cells #[.int .i64 o,.int .i64 d,.int .i64 s,.int .i64 z,.int .i64 i] 89));have C0:=hid (fun w=>I9 d w);have C1:=hid (fun w=>I9 s w);cases h0:(isR d)
 ·rw[h0]at C0;clear h0;go_enter func226,ntmps226;exact A4a
 ·rw[h0]at C0;clear h0;cases h1:(isR s)
  ·rw[h1]at C1;clear h1;go_enter func226,ntmps226;exact A4a
  ·rw[h1]at C1;clear h1;go_enter func226,ntmps226;exact A4a
theorem A9A(o d s z i:Int)(w:World):Calls prog 181 #[.agg #[.int .i64 o,.int .i64 d,.int .i64 s,.int .i64 z,.int .i64 i]] w fun e w'=>e= .returned (.bool ((isR d)&&((isR s)&&(i==0))))∧Below w.heap.size w w':=by
 have HB:=hid ((Below.refl w.heap.size w).alloc (Nat.le_refl _) (.cells #[.int .i64 o,.int .i64 d,.int .i64 s,.int .i64 z,.int .i64 i] 89));have C0:=hid (fun w=>I9 d w);have C1:=hid (fun w=>I9 s w);cases h0:(isR d)
 ·rw[h0]at C0;clear h0;go_enter func181,ntmps181;exact A4a
 ·rw[h0]at C0;clear h0;cases h1:(isR s)
  ·rw[h1]at C1;clear h1;go_enter func181,ntmps181;exact A4a
  ·rw[h1]at C1;clear h1;go_enter func181,ntmps181;exact A4a
theorem A0F(o d s z i:Int)(w:World):Calls prog 228 #[.agg #[.int .i64 o,.int .i64 d,.int .i64 s,.int .i64 z,.int .i64 i]] w fun e w'=>e= .returned (.bool ((isR d)&&((isM s)&&(I5 i))))∧Below w.heap.size w w':=by
 have HB:=hid ((Below.refl w.heap.size w).alloc (Nat.le_refl _) (.cells #[.int .i64 o,.int .i64 d,.int .i64 s,.int .i64 z,.int .i64 i] 89));have C0:=hid (fun w=>I9 d w);have C1:=hid (fun w=>U2 s w);have C2:=hid (fun w=>N5 i w);cases h0:(isR d)
 ·rw[h0]at C0;clear h0;exact B1W
 ·rw[h0]at C0;clear h0;cases h1:(isM s)
  ·rw[h1]at C1;clear h1;exact B1W
  ·rw[h1]at C1;clear h1;exact B1W
theorem c9(o d s z i:Int)(w:World):Calls prog 238 #[.agg #[.int .i64 o,.int .i64 d,.int .i64 s,.int .i64 z,.int .i64 i]] w fun e w'=>e= .returned (.bool ((isR d)&&((s==0)&&(i==0))))∧Below w.heap.size w w':=by
 have HB:=hid ((Below.refl w.heap.size w).alloc (Nat.le_refl _) (.cells #[.int .i64 o,.int .i64 d,.int .i64 s,.int .i64 z,.int .i64 i] 89));have C0:=hid (fun w=>I9 d w);cases h0:(isR d)
 ·rw[h0]at C0;clear h0;exact B1H
 ·rw[h0]at C0;clear h0;cases h1:(s==0)
  ·skip
   exact B1H
  ·skip
   exact B1H
theorem k9(o d s z i:Int)(w:World):Calls prog 240 #[.agg #[.int .i64 o,.int .i64 d,.int .i64 s,.int .i64 z,.int .i64 i]] w fun e w'=>e= .returned (.bool ((d==0)&&((s==0)&&(i==0))))∧Below w.heap.size w w':=by
 have HB:=hid ((Below.refl w.heap.size w).alloc (Nat.le_refl _) (.cells #[.int .i64 o,.int .i64 d,.int .i64 s,.int .i64 z,.int .i64 i] 89));cases h0:(d==0)
 ·skip
  go_enter func240,ntmps240;go_wp2_with fail
  go_ret;exact⟨rfl,HB.out⟩
 ·skip
  cases h1:(s==0)
  ·skip
   go_enter func240,ntmps240;go_wp2_with fail
   go_ret;exact⟨rfl,HB.out⟩
  ·skip
   go_enter func240,ntmps240;go_wp2_with fail
   go_ret;exact⟨rfl,HB.out⟩
theorem A8z(o d s z i:Int)(w:World):Calls prog 186 #[.agg #[.int .i64 o,.int .i64 d,.int .i64 s,.int .i64 z,.int .i64 i]] w fun e w'=>e= .returned (.bool ((isL d)&&((isC s)&&(i==0))))∧Below w.heap.size w w':=by
 have HB:=hid ((Below.refl w.heap.size w).alloc (Nat.le_refl _) (.cells #[.int .i64 o,.int .i64 d,.int .i64 s,.int .i64 z,.int .i64 i] 89));have C0:=hid (fun w=>p7 d w);have C1:=hid (fun w=>c8 s w);cases h0:(isL d)
 ·rw[h0]at C0;clear h0;exact B1M
 ·rw[h0]at C0;clear h0;cases h1:(isC s)
  ·rw[h1]at C1;clear h1;exact B1M
  ·rw[h1]at C1;clear h1;exact B1M
theorem A7C(o d s z i:Int)(w:World):Calls prog 189 #[.agg #[.int .i64 o,.int .i64 d,.int .i64 s,.int .i64 z,.int .i64 i]] w fun e w'=>e= .returned (.bool ((isR d)&&((isL s)&&(i==0))))∧Below w.heap.size w w':=by
 have HB:=hid ((Below.refl w.heap.size w).alloc (Nat.le_refl _) (.cells #[.int .i64 o,.int .i64 d,.int .i64 s,.int .i64 z,.int .i64 i] 89));have C0:=hid (fun w=>I9 d w);have C1:=hid (fun w=>p7 s w);cases h0:(isR d)
 ·rw[h0]at C0;clear h0;exact B1L
 ·rw[h0]at C0;clear h0;cases h1:(isL s)
  ·rw[h1]at C1;clear h1;exact B1L
  ·rw[h1]at C1;clear h1;exact B1L
theorem A7D(o d s z i:Int)(w:World):Calls prog 191 #[.agg #[.int .i64 o,.int .i64 d,.int .i64 s,.int .i64 z,.int .i64 i]] w fun e w'=>e= .returned (.bool ((isR d)&&((isR s)&&(isC i))))∧Below w.heap.size w w':=by
 have HB:=hid ((Below.refl w.heap.size w).alloc (Nat.le_refl _) (.cells #[.int .i64 o,.int .i64 d,.int .i64 s,.int .i64 z,.int .i64 i] 89));have C0:=hid (fun w=>I9 d w);have C1:=hid (fun w=>I9 s w);have C2:=hid (fun w=>c8 i w);cases h0:(isR d)
 ·rw[h0]at C0;clear h0;exact B1Q
 ·rw[h0]at C0;clear h0;cases h1:(isR s)
  ·rw[h1]at C1;clear h1;exact B1Q
  ·rw[h1]at C1;clear h1;exact B1Q
theorem A4C(o d s z i:Int)(w:World):Calls prog 196 #[.agg #[.int .i64 o,.int .i64 d,.int .i64 s,.int .i64 z,.int .i64 i]] w fun e w'=>e= .returned (.bool (isC s))∧Below w.heap.size w w':=by
 have HB:=hid ((Below.refl w.heap.size w).alloc (Nat.le_refl _) (.cells #[.int .i64 o,.int .i64 d,.int .i64 s,.int .i64 z,.int .i64 i] 89));have C0:=hid (fun w=>c8 s w);go_enter func196,ntmps196;go_wp2_with((with_reducible refine(C0.out _).mono ?_);rintro e w' ⟨rfl,rfl⟩)
 go_ret;exact⟨rfl,HB.out⟩
theorem A4B(o d s z i:Int)(w:World):Calls prog 199 #[.agg #[.int .i64 o,.int .i64 d,.int .i64 s,.int .i64 z,.int .i64 i]] w fun e w'=>e= .returned (.bool (s==0))∧Below w.heap.size w w':=by
 have HB:=hid ((Below.refl w.heap.size w).alloc (Nat.le_refl _) (.cells #[.int .i64 o,.int .i64 d,.int .i64 s,.int .i64 z,.int .i64 i] 89));go_enter func199,ntmps199;go_wp2_with fail
 go_ret;exact⟨rfl,HB.out⟩
theorem A3R(o d s z i:Int)(b:Nat)(w:World)(hc:w.cell? ⟨b,0,none⟩=some (.func (.func 173) #[] #[])):Calls prog 233 #[.agg #[.int .i64 o,.int .i64 d,.int .i64 s,.int .i64 z,.int .i64 i],.pointer (some ⟨b,0,none⟩)] w fun e w'=>e= .returned (.bool ((isM d)&&((isR s)&&(I5 i))))∧Below w.heap.size w w':=by
 have HB:=hid ((Below.refl w.heap.size w).alloc (Nat.le_refl _) (.cells #[.int .i64 o,.int .i64 d,.int .i64 s,.int .i64 z,.int .i64 i] 89));have C0:=hid (fun w=>U2 d w);have C1:=hid (fun w=>I9 s w);have C2:=hid (fun w=>N5 i w);have hl:=F9 hc;have hn:¬b=w.heap.size:=by omega
 cases h0:(isM d)
 ·rw[h0]at C0;clear h0;exact B1V
 ·rw[h0]at C0;clear h0;cases h1:(isR s)
  ·rw[h1]at C1;clear h1;exact B1V
  ·rw[h1]at C1;clear h1;exact B1V
theorem A3S(o d s z i:Int)(b:Nat)(w:World)(hc:w.cell? ⟨b,0,none⟩=some (.func (.func 179) #[] #[])):Calls prog 233 #[.agg #[.int .i64 o,.int .i64 d,.int .i64 s,.int .i64 z,.int .i64 i],.pointer (some ⟨b,0,none⟩)] w fun e w'=>e= .returned (.bool ((isM d)&&((isL s)&&(I5 i))))∧Below w.heap.size w w':=by
 have HB:=hid ((Below.refl w.heap.size w).alloc (Nat.le_refl _) (.cells #[.int .i64 o,.int .i64 d,.int .i64 s,.int .i64 z,.int .i64 i] 89));have C0:=hid (fun w=>U2 d w);have C1:=hid (fun w=>p7 s w);have C2:=hid (fun w=>N5 i w);have hl:=F9 hc;have hn:¬b=w.heap.size:=by omega
 cases h0:(isM d)
 ·rw[h0]at C0;clear h0;exact B1U
 ·rw[h0]at C0;clear h0;cases h1:(isL s)
  ·rw[h1]at C1;clear h1;exact B1U
  ·rw[h1]at C1;clear h1;exact B1U
theorem A3T(o d s i:Int)(w:World):Calls prog 235 #[.agg #[.int .i64 o,.int .i64 d,.int .i64 s,.int .i64 32,.int .i64 i]] w fun e w'=>e= .returned (.bool (isR d&&((s==0)&&inZ i 32)))∧Below w.heap.size w w':=by
 have HB:=hid ((Below.refl w.heap.size w).alloc (Nat.le_refl _) (.cells #[.int .i64 o,.int .i64 d,.int .i64 s,.int .i64 32,.int .i64 i] 89));have C0:=hid (fun w=>I9 d w);have C1:Hid (∀w,Calls prog 174 #[.int .i64 i,.int .i64 0,.int .i64 4294967295] w fun e w'=>e= .returned (.bool (inZ i 32))∧w=w'):=fun w=>J6 i 0 4294967295 w
 generalize inZ i 32=q at*
 exact B0G
theorem A3U(o d s i:Int)(w:World):Calls prog 235 #[.agg #[.int .i64 o,.int .i64 d,.int .i64 s,.int .i64 16,.int .i64 i]] w fun e w'=>e= .returned (.bool (isR d&&((s==0)&&inZ i 16)))∧Below w.heap.size w w':=by
 have HB:=hid ((Below.refl w.heap.size w).alloc (Nat.le_refl _) (.cells #[.int .i64 o,.int .i64 d,.int .i64 s,.int .i64 16,.int .i64 i] 89));have C0:=hid (fun w=>I9 d w);have C1:Hid (∀w,Calls prog 174 #[.int .i64 i,.int .i64 0,.int .i64 65535] w fun e w'=>e= .returned (.bool (inZ i 16))∧w=w'):=fun w=>J6 i 0 65535 w
 generalize inZ i 16=q at*
 exact B0G
theorem A2T(o d s i:Int)(w:World):Calls prog 172 #[.agg #[.int .i64 o,.int .i64 d,.int .i64 s,.int .i64 32,.int .i64 i]] w fun e w'=>e= .returned (.bool (isR d&&((s==0)&&inZ i 32)))∧Below w.heap.size w w':=by
 have HB:=hid ((Below.refl w.heap.size w).alloc (Nat.le_refl _) (.cells #[.int .i64 o,.int .i64 d,.int .i64 s,.int .i64 32,.int .i64 i] 89));have C0:=hid (fun w=>I9 d w);have C1:Hid (∀w,Calls prog 174 #[.int .i64 i,.int .i64 0,.int .i64 4294967295] w fun e w'=>e= .returned (.bool (inZ i 32))∧w=w'):=fun w=>J6 i 0 4294967295 w
 generalize inZ i 32=q at*
 exact B0F
theorem A2U(o d s i:Int)(w:World):Calls prog 172 #[.agg #[.int .i64 o,.int .i64 d,.int .i64 s,.int .i64 16,.int .i64 i]] w fun e w'=>e= .returned (.bool (isR d&&((s==0)&&inZ i 16)))∧Below w.heap.size w w':=by
 have HB:=hid ((Below.refl w.heap.size w).alloc (Nat.le_refl _) (.cells #[.int .i64 o,.int .i64 d,.int .i64 s,.int .i64 16,.int .i64 i] 89));have C0:=hid (fun w=>I9 d w);have C1:Hid (∀w,Calls prog 174 #[.int .i64 i,.int .i64 0,.int .i64 65535] w fun e w'=>e= .returned (.bool (inZ i 16))∧w=w'):=fun w=>J6 i 0 65535 w
 generalize inZ i 16=q at*
 exact B0F
theorem A2W(o d s i:Int)(b:Nat)(w:World)(hc:w.cell? ⟨b,0,none⟩=some (.func (.func 196) #[] #[])):Calls prog 242 #[.agg #[.int .i64 o,.int .i64 d,.int .i64 s,.int .i64 8,.int .i64 i],.pointer (some ⟨b,0,none⟩)] w fun e w'=>e= .returned (.bool ((d==0)&&((isC s)&&isB i)))∧Below w.heap.size w w':=by
 have hl:=F9 hc;have hn:¬b=w.heap.size:=by omega
 have HB:=hid ((Below.refl w.heap.size w).alloc (Nat.le_refl _) (.cells #[.int .i64 o,.int .i64 d,.int .i64 s,.int .i64 8,.int .i64 i] 89));have C0:=hid (fun w=>A4C o d s 8 i w);have C1:Hid (∀w,Calls prog 174 #[.int .i64 i,.int .i64 (-128),.int .i64 127] w fun e w'=>e= .returned (.bool (isB i))∧w=w'):=fun w=>J6 i (-128) 127 w
 have C2:=hid (fun w=>N5 i w);cases h0:(d==0)
 ·go_enter func242,ntmps242;go_wp2_with(first|((with_reducible refine(C0.out _).mono ?_);rintro e w1 ⟨rfl,hb⟩;have q3:w1.cell? ⟨w.heap.size,3,none⟩=some (.int .i64 8):=C9 hb 3;have q4:w1.cell? ⟨w.heap.size,4,none⟩=some (.int .i64 i):=C9 hb 4)|((with_reducible first|refine(C1.out _).mono ?_|refine(C2.out _).mono ?_);rintro e w' ⟨rfl,rfl⟩))
  go_ret;exact⟨rfl,HB.out⟩
 ·cases h1:(isC s)
  ·rw[h1]at C0;clear h1;exact B1c
  ·rw[h1]at C0;clear h1;cases h2:isB i
   ·rw[h2]at C1;clear h2;exact B1c
   ·rw[h2]at C1;clear h2;exact B1c
theorem A1H(o d s i:Int)(b:Nat)(w:World)(hc:w.cell? ⟨b,0,none⟩=some (.func (.func 196) #[] #[])):Calls prog 242 #[.agg #[.int .i64 o,.int .i64 d,.int .i64 s,.int .i64 32,.int .i64 i],.pointer (some ⟨b,0,none⟩)] w fun e w'=>e= .returned (.bool ((d==0)&&((isC s)&&I5 i)))∧Below w.heap.size w w':=by
 have hl:=F9 hc;have hn:¬b=w.heap.size:=by omega
 have HB:=hid ((Below.refl w.heap.size w).alloc (Nat.le_refl _) (.cells #[.int .i64 o,.int .i64 d,.int .i64 s,.int .i64 32,.int .i64 i] 89));have C0:=hid (fun w=>A4C o d s 32 i w);have C1:Hid (∀w,Calls prog 174 #[.int .i64 i,.int .i64 (-128),.int .i64 127] w fun e w'=>e= .returned (.bool (isB i))∧w=w'):=fun w=>J6 i (-128) 127 w
 have C2:=hid (fun w=>N5 i w);cases h0:(d==0)
 ·go_enter func242,ntmps242;go_wp2_with(first|((with_reducible refine(C0.out _).mono ?_);rintro e w1 ⟨rfl,hb⟩;have q3:w1.cell? ⟨w.heap.size,3,none⟩=some (.int .i64 32):=C9 hb 3;have q4:w1.cell? ⟨w.heap.size,4,none⟩=some (.int .i64 i):=C9 hb 4)|((with_reducible first|refine(C1.out _).mono ?_|refine(C2.out _).mono ?_);rintro e w' ⟨rfl,rfl⟩))
  go_ret;exact⟨rfl,HB.out⟩
 ·cases h1:(isC s)
  ·exact B3t
  ·exact B3t
theorem A2V(o d s i:Int)(b:Nat)(w:World)(hc:w.cell? ⟨b,0,none⟩=some (.func (.func 199) #[] #[])):Calls prog 242 #[.agg #[.int .i64 o,.int .i64 d,.int .i64 s,.int .i64 8,.int .i64 i],.pointer (some ⟨b,0,none⟩)] w fun e w'=>e= .returned (.bool ((d==0)&&((s==0)&&isB i)))∧Below w.heap.size w w':=by
 have hl:=F9 hc;have hn:¬b=w.heap.size:=by omega
 have HB:=hid ((Below.refl w.heap.size w).alloc (Nat.le_refl _) (.cells #[.int .i64 o,.int .i64 d,.int .i64 s,.int .i64 8,.int .i64 i] 89));have C0:=hid (fun w=>A4B o d s 8 i w);have C1:Hid (∀w,Calls prog 174 #[.int .i64 i,.int .i64 (-128),.int .i64 127] w fun e w'=>e= .returned (.bool (isB i))∧w=w'):=fun w=>J6 i (-128) 127 w
 have C2:=hid (fun w=>N5 i w);cases h0:(d==0)
 ·go_enter func242,ntmps242;go_wp2_with(first|((with_reducible refine(C0.out _).mono ?_);rintro e w1 ⟨rfl,hb⟩;have q3:w1.cell? ⟨w.heap.size,3,none⟩=some (.int .i64 8):=C9 hb 3;have q4:w1.cell? ⟨w.heap.size,4,none⟩=some (.int .i64 i):=C9 hb 4)|((with_reducible first|refine(C1.out _).mono ?_|refine(C2.out _).mono ?_);rintro e w' ⟨rfl,rfl⟩))
  go_ret;exact⟨rfl,HB.out⟩
 ·cases h1:(s==0)
  ·rw[h1]at C0;clear h1;exact B1b
  ·rw[h1]at C0;clear h1;cases h2:isB i
   ·rw[h2]at C1;clear h2;exact B1b
   ·rw[h2]at C1;clear h2;exact B1b
theorem A1G(o d s i:Int)(b:Nat)(w:World)(hc:w.cell? ⟨b,0,none⟩=some (.func (.func 199) #[] #[])):Calls prog 242 #[.agg #[.int .i64 o,.int .i64 d,.int .i64 s,.int .i64 32,.int .i64 i],.pointer (some ⟨b,0,none⟩)] w fun e w'=>e= .returned (.bool ((d==0)&&((s==0)&&I5 i)))∧Below w.heap.size w w':=by
 have hl:=F9 hc;have hn:¬b=w.heap.size:=by omega
 have HB:=hid ((Below.refl w.heap.size w).alloc (Nat.le_refl _) (.cells #[.int .i64 o,.int .i64 d,.int .i64 s,.int .i64 32,.int .i64 i] 89));have C0:=hid (fun w=>A4B o d s 32 i w);have C1:Hid (∀w,Calls prog 174 #[.int .i64 i,.int .i64 (-128),.int .i64 127] w fun e w'=>e= .returned (.bool (isB i))∧w=w'):=fun w=>J6 i (-128) 127 w
 have C2:=hid (fun w=>N5 i w);cases h0:(d==0)
 ·go_enter func242,ntmps242;go_wp2_with(first|((with_reducible refine(C0.out _).mono ?_);rintro e w1 ⟨rfl,hb⟩;have q3:w1.cell? ⟨w.heap.size,3,none⟩=some (.int .i64 32):=C9 hb 3;have q4:w1.cell? ⟨w.heap.size,4,none⟩=some (.int .i64 i):=C9 hb 4)|((with_reducible first|refine(C1.out _).mono ?_|refine(C2.out _).mono ?_);rintro e w' ⟨rfl,rfl⟩))
  go_ret;exact⟨rfl,HB.out⟩
 ·cases h1:(s==0)
  ·exact B3s
  ·exact B3s
end Go.Proofs.YtajljbmeaeeknaaGreat
