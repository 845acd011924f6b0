/- -/
import Derived.Test.YtajljbmeaeeknaaGreatA10
open Go.Proofs.Tryz
namespace Go.Proofs.YtajljbmeaeeknaaGreat
set_option linter.unusedVariables false
set_option linter.unusedSimpArgs false
theorem B1N{p:Prop}(h:p:=by
 simp only[List.cons_append,List.nil_append];have n0:=B3 (c:=211::q::rest) (n:=0) (show _=some _ from rfl);have n1:=B3 (c:=211::q::rest) (n:=1) (show _=some _ from rfl);rcases hz with rfl|rfl
 all_goals refine⟨?_,?_,?_,?_⟩
 all_goals exact z8
 ):p:=h
theorem B3n{p:Prop}(h:p:=by
 subst hDe;have hi:0≤i%256∧i%256<256:=by omega
 generalize i%256=j at*
 clear e hB es hs em;simp only[List.cons_append,List.nil_append];have n0:=B3 (c:=131::q::j::rest) (n:=0) (show _=some _ from rfl);have n1:=B3 (c:=131::q::j::rest) (n:=1) (show _=some _ from rfl);have n2:=B3 (c:=131::q::j::rest) (n:=2) (show _=some _ from rfl);refine⟨?_,?_,?_,?_⟩
 all_goals exact B5g
 ):p:=h
theorem B3S{p:Prop}(h:p:=by
 simp only[List.cons_append,List.nil_append];have n0:=B3 (c:=247::q::rest) (n:=0) (show _=some _ from rfl);have n1:=B3 (c:=247::q::rest) (n:=1) (show _=some _ from rfl);rcases hz with rfl|rfl
 all_goals refine⟨?_,?_,?_,?_⟩
 all_goals exact z8
 ):p:=h
theorem B0D{p:Prop}(h:p:=by
 simp only[List.cons_append,List.nil_append];have n0:=B3 (c:=247::q::rest) (n:=0) (show _=some _ from rfl);have n1:=B3 (c:=247::q::rest) (n:=1) (show _=some _ from rfl);subst hz;refine⟨?_,?_,?_,?_⟩
 all_goals exact z8
 ):p:=h
theorem B1B{p:Prop}(h:p:=by
 first|(simp[gsP,N3,S5,Z5,J1,D1];done)|(simp only[gsR,U7,T6,D1,n0];simp;done)|(simp only[gsR,U7,T6,D1,n0];simp;omega)|(simp;done)|(simp;omega)|(intro b hb;simp at hb;omega)):p:=h
theorem B3K{p:Prop}(h:p:=by
 subst hz
 all_goals refine⟨?_,?_,?_,?_⟩
 all_goals first|(simp[gsP,N3,S5,Z5,J1,D1,f1,f2,f3,d4,w4,ll];done)|(simp only[gsR,U7,T6,D1,n0,n1,n2,n4,f1,f2,f3,w4];simp[gq,f4,f5];done)|(simp;done)|(intro b hb;simp only[List.mem_cons]at hb;rcases hb with rfl|hb;omega;first|exact lb b hb|(rcases hb with rfl|hb;omega;first|exact lb b hb|(rcases hb with rfl|hb;omega;exact lb b hb)))):p:=h
theorem B1C{p:Prop}(h:p:=by
 first|(simp[gsP,N3,S5,Z5,J1,D1,f1,f2,f3,d4,w4,ll];done)|(simp only[gsR,U7,T6,D1,n0,n1,n4,f1,f2,f3,w4];simp[gq,f4,f5];done)|(simp;done)|(intro b hb;simp only[List.mem_cons]at hb;rcases hb with rfl|hb;omega;first|exact lb b hb|(rcases hb with rfl|hb;omega;first|exact lb b hb|(rcases hb with rfl|hb;omega;exact lb b hb)))):p:=h
theorem B5g{p:Prop}(h:p:=by
 first|(simp[gsP,N3,S5,Z5,J1,D1,f1,f2,f3,ep,eg];done)|(simp only[gsR,U7,T6,D1,n0,n1,n2,f1,f2,f3];simp[ep,eg];done)|(simp;done)|(intro b hb;simp at hb;omega)):p:=h
theorem B3L{p:Prop}(h:p:=by
 first|(simp[gsP,N3,S5,Z5,J1,D1,f1,f2,f3,rd,ll];done)|(simp only[gsR,U7,T6,D1,n0,n1,f1,f2,f3];simp[n4];done)|(simp;done)|(intro b hb;simp only[List.mem_cons]at hb;rcases hb with rfl|hb;omega;rcases hb with rfl|hb;omega;exact lb b hb)):p:=h
theorem Y8{p:Prop}(h:p:=by
 first|(simp[gsP,N3,S5,Z5,J1,D1,rd,ll];done)|(simp only[gsR,U7,T6,D1,n0];simp[n4];done)|(simp;done)|(intro b hb;simp only[List.mem_cons]at hb;rcases hb with rfl|hb;omega;exact lb b hb)):p:=h
theorem b6{p:Prop}(h:p:=by
 first|(simp[gsP,N3,S5,Z5,J1,D1,sb];done)|(simp only[gsR,U7,T6,D1,n0,n1,sb];simp[sb];done)|(simp only[gsR,U7,T6,D1,n0,n1,sb];simp;omega)|(simp;done)|(simp;omega)|(intro b hb;simp at hb;omega)):p:=h
theorem j6{p:Prop}(h:p:=by
 first|(simp[gsP,N3,S5,Z5,J1,D1,d4,w4,ll];done)|(simp only[gsR,U7,T6,D1,n0,n1];simp[n4,w4];done)|(simp;done)|(intro b hb;simp only[List.mem_cons]at hb;rcases hb with rfl|hb;omega;first|exact lb b hb|(rcases hb with rfl|hb;omega;exact lb b hb))):p:=h
theorem z8{p:Prop}(h:p:=by
 first|(simp[gsP,N3,S5,Z5,J1,D1,f1,f2,f3];done)|(simp only[gsR,U7,T6,D1,n0,n1,f1,f2,f3];simp[f1,f2,f3];done)|(simp only[gsR,U7,T6,D1,n0,n1,f1,f2,f3];simp;omega)|(simp;done)|(simp;omega)|(intro b hb;simp at hb;omega)):p:=h
theorem N9{p:Prop}(h:p:=by
 first|(simp[gsP,N3,S5,Z5,J1,D1,f1,f2,f3];done)|(simp only[gsR,U7,T6,D1,n0,n1,n2,f1,f2,f3];simp[f1,f2,f3];done)|(simp only[gsR,U7,T6,D1,n0,n1,n2,f1,f2,f3];simp;omega)|(simp;done)|(simp;omega)|(intro b hb;simp at hb;omega)):p:=h
theorem S6{r m:Int}(h1:0≤r)(h2:r≤7)(h3:0≤m)(h4:m≤7):rF (mrB r m)=r∧mF (mrB r m)=m∧mrB r m / 64=3∧192≤mrB r m∧mrB r m<256:=by unfold rF mF mrB;omega
theorem A6X{r m:Int}(h1:0≤r)(h2:r≤7)(h3:0≤m)(h4:m≤7):rF ((128+8*r+m)%256)=r∧mF ((128+8*r+m)%256)=m∧(128+8*r+m)%256 / 64=2∧128≤(128+8*r+m)%256∧(128+8*r+m)%256<192:=by unfold rF mF;omega
theorem rd4(i:Int)(r:List Int):rdB (leB i 4++r) 4=i%4294967296:=A0q i 4 r
theorem rd2(i:Int)(r:List Int):rdB (leB i 2++r) 2=i%65536:=A0q i 2 r
theorem A3A{i:Int}(h1: -2147483648≤i)(h2:i≤2147483647):G2 (i%4294967296)=i:=by unfold G2;split<;>omega
theorem B3G{i:Int}(h1: -128≤i)(h2:i≤127):sg8 (i%256)=i:=by unfold sg8;split<;>omega
theorem M4(n:Int)(k:Nat):∀b∈leB n k,0≤b∧b<256:=by
 induction k generalizing n with
 |zero=>intro b hb;cases hb
 |succ k ih=>
  intro b hb;rcases List.mem_cons.1 hb with rfl|hb
  ·omega
  ·exact ih _ b hb
theorem D4{x:Ins}(h:okI x=true):G7 x=true:=by unfold okI at h;simp only[Bool.and_eq_true]at h;exact h.2
theorem F6{x:Ins}(h:okI x=true):x.z∈szI x.o:=by unfold okI at h;simp only[Bool.and_eq_true]at h;simpa using h.1
theorem A1t{x:Ins}(h:okI x=true):0≤x.o∧x.o≤36:=by
 by_cases c:0≤x.o∧x.o≤36
 ·exact c
 ·have:=F6 h;unfold szI at this;rw[if_neg (by omega),if_neg (by omega),if_neg (by omega),if_neg (by omega),if_neg (by omega),if_neg (by omega),if_neg (by omega),if_neg (by omega)]at this;cases this
theorem B3{c:List Int}{n:Nat}{a:Int}(h:c[n]? =some a):nmR c n 1=a:=by
 obtain⟨hl,he⟩:=List.getElem?_eq_some_iff.1 h;unfold nmR;rw[if_pos (by omega),List.drop_eq_getElem_cons hl,he];show a+256*rdB _ 0=a
 unfold rdB;omega
theorem L7{c:List Int}{n k:Nat}{i:Int}{r:List Int}(h:c.drop n=leB i k++r)(hn:n+k≤c.length):nmR c n k=i%256^k:=by
 unfold nmR;rw[if_pos hn,h,A0q]
def I1(x:Ins)(r:List Int):Prop:=gsP (B5 x++r) (if x.z=16 then 16 else 32)=(x,(B5 x).length)∧gsR (B5 x++r) (if x.z=16 then 16 else 32)=x∧(B5 x++r).getD 0 0≠102∧∀b∈B5 x,0≤b∧b<256
theorem B6J(d s z i:Int)(rest:List Int)(h:okI ⟨0,d,s,z,i⟩=true):I1 ⟨0,d,s,z,i⟩ rest:=by
 have hz:=F6 h;have hf:=D4 h;clear h;simp[szI]at hz;simp[G7,J0,isR,isM,isL,isC,isB,I5,inZ,pwZ]at hf;unfold I1;have b1:0≤d∧d≤7∧0≤s∧s≤7∧i=0:=by omega
 obtain⟨d1,d2,s1,s2,rfl⟩:=b1;obtain⟨f1,f2,f3,f4,f5⟩:=S6 (r:=s) (m:=d) (by omega) (by omega) (by omega) (by omega);have e:∀z,B5 ⟨0,d,s,z,0⟩=[137,mrB s d]:=fun _=>rfl
 rw[e];generalize mrB s d=q at*
 clear e hf;simp only[List.cons_append,List.nil_append];have n0:=B3 (c:=137::q::rest) (n:=0) (show _=some _ from rfl);have n1:=B3 (c:=137::q::rest) (n:=1) (show _=some _ from rfl);rcases hz with rfl|rfl
 all_goals refine⟨?_,?_,?_,?_⟩
 all_goals exact z8
theorem B6I(d s z i:Int)(rest:List Int)(h:okI ⟨1,d,s,z,i⟩=true):I1 ⟨1,d,s,z,i⟩ rest:=by
 have hz:=F6 h;have hf:=D4 h;clear h;simp[szI]at hz;unfold I1;rcases hz with rfl|rfl
 ·have ep:pwZ 32=4294967296:=rfl;simp[G7,J0,isR,isM,isL,isC,isB,I5,inZ]at hf;have b1:0≤d∧d≤7∧s=0∧0≤i∧i≤4294967295:=by omega
  obtain⟨d1,d2,rfl,i1,i2⟩:=b1;have em:i%4294967296=i:=by omega
  have rd:=rd4 i rest;rw[em]at rd;have lb:=M4 i 4;have ll:=A8 i 4;clear hf em;rcases(show d=0∨d=1∨d=2∨d=3∨d=4∨d=5∨d=6∨d=7 by omega)with rfl|rfl|rfl|rfl|rfl|rfl|rfl|rfl
  ·have e:B5 ⟨1,0,0,32,i⟩=184::leB i 4:=rfl;rw[e];simp only[List.cons_append,List.nil_append];have n0:=B3 (c:=184::(leB i 4++rest)) (n:=0) (show _=some _ from rfl);have n4:nmR (184::(leB i 4++rest)) 1 4=i:=by have:=L7 (c:=184::(leB i 4++rest)) (n:=1) (k:=4) (i:=i) (r:=rest) rfl (by simp[A8]<;>omega);rw[this];omega
   refine⟨?_,?_,?_,?_⟩
   all_goals exact Y8
  ·have e:B5 ⟨1,1,0,32,i⟩=185::leB i 4:=rfl;rw[e];simp only[List.cons_append,List.nil_append];have n0:=B3 (c:=185::(leB i 4++rest)) (n:=0) (show _=some _ from rfl);have n4:nmR (185::(leB i 4++rest)) 1 4=i:=by have:=L7 (c:=185::(leB i 4++rest)) (n:=1) (k:=4) (i:=i) (r:=rest) rfl (by simp[A8]<;>omega);rw[this];omega
   refine⟨?_,?_,?_,?_⟩
   all_goals exact Y8
  ·have e:B5 ⟨1,2,0,32,i⟩=186::leB i 4:=rfl;rw[e];simp only[List.cons_append,List.nil_append];have n0:=B3 (c:=186::(leB i 4++rest)) (n:=0) (show _=some _ from rfl);have n4:nmR (186::(leB i 4++rest)) 1 4=i:=by have:=L7 (c:=186::(leB i 4++rest)) (n:=1) (k:=4) (i:=i) (r:=rest) rfl (by simp[A8]<;>omega);rw[this];omega
   refine⟨?_,?_,?_,?_⟩
   all_goals exact Y8
  ·have e:B5 ⟨1,3,0,32,i⟩=187::leB i 4:=rfl;rw[e];simp only[List.cons_append,List.nil_append];have n0:=B3 (c:=187::(leB i 4++rest)) (n:=0) (show _=some _ from rfl);have n4:nmR (187::(leB i 4++rest)) 1 4=i:=by have:=L7 (c:=187::(leB i 4++rest)) (n:=1) (k:=4) (i:=i) (r:=rest) rfl (by simp[A8]<;>omega);rw[this];omega
   refine⟨?_,?_,?_,?_⟩
   all_goals exact Y8
  ·have e:B5 ⟨1,4,0,32,i⟩=188::leB i 4:=rfl;rw[e];simp only[List.cons_append,List.nil_append];have n0:=B3 (c:=188::(leB i 4++rest)) (n:=0) (show _=some _ from rfl);have n4:nmR (188::(leB i 4++rest)) 1 4=i:=by have:=L7 (c:=188::(leB i 4++rest)) (n:=1) (k:=4) (i:=i) (r:=rest) rfl (by simp[A8]<;>omega);rw[this];omega
   refine⟨?_,?_,?_,?_⟩
   all_goals exact Y8
  ·have e:B5 ⟨1,5,0,32,i⟩=189::leB i 4:=rfl;rw[e];simp only[List.cons_append,List.nil_append];have n0:=B3 (c:=189::(leB i 4++rest)) (n:=0) (show _=some _ from rfl);have n4:nmR (189::(leB i 4++rest)) 1 4=i:=by have:=L7 (c:=189::(leB i 4++rest)) (n:=1) (k:=4) (i:=i) (r:=rest) rfl (by simp[A8]<;>omega);rw[this];omega
   refine⟨?_,?_,?_,?_⟩
   all_goals exact Y8
  ·have e:B5 ⟨1,6,0,32,i⟩=190::leB i 4:=rfl;rw[e];simp only[List.cons_append,List.nil_append];have n0:=B3 (c:=190::(leB i 4++rest)) (n:=0) (show _=some _ from rfl);have n4:nmR (190::(leB i 4++rest)) 1 4=i:=by have:=L7 (c:=190::(leB i 4++rest)) (n:=1) (k:=4) (i:=i) (r:=rest) rfl (by simp[A8]<;>omega);rw[this];omega
   refine⟨?_,?_,?_,?_⟩
   all_goals exact Y8
  ·have e:B5 ⟨1,7,0,32,i⟩=191::leB i 4:=rfl;rw[e];simp only[List.cons_append,List.nil_append];have n0:=B3 (c:=191::(leB i 4++rest)) (n:=0) (show _=some _ from rfl);have n4:nmR (191::(leB i 4++rest)) 1 4=i:=by have:=L7 (c:=191::(leB i 4++rest)) (n:=1) (k:=4) (i:=i) (r:=rest) rfl (by simp[A8]<;>omega);rw[this];omega
   refine⟨?_,?_,?_,?_⟩
   all_goals exact Y8
 ·have ep:pwZ 16=65536:=rfl;simp[G7,J0,isR,isM,isL,isC,isB,I5,inZ]at hf;have b1:0≤d∧d≤7∧s=0∧0≤i∧i≤65535:=by omega
  obtain⟨d1,d2,rfl,i1,i2⟩:=b1;have em:i%65536=i:=by omega
  have rd:=rd2 i rest;rw[em]at rd;have lb:=M4 i 2;have ll:=A8 i 2;clear hf em;rcases(show d=0∨d=1∨d=2∨d=3∨d=4∨d=5∨d=6∨d=7 by omega)with rfl|rfl|rfl|rfl|rfl|rfl|rfl|rfl
  ·have e:B5 ⟨1,0,0,16,i⟩=184::leB i 2:=rfl;rw[e];simp only[List.cons_append,List.nil_append];have n0:=B3 (c:=184::(leB i 2++rest)) (n:=0) (show _=some _ from rfl);have n4:nmR (184::(leB i 2++rest)) 1 2=i:=by have:=L7 (c:=184::(leB i 2++rest)) (n:=1) (k:=2) (i:=i) (r:=rest) rfl (by simp[A8]<;>omega);rw[this];omega
   refine⟨?_,?_,?_,?_⟩
   all_goals exact Y8
  ·have e:B5 ⟨1,1,0,16,i⟩=185::leB i 2:=rfl;rw[e];simp only[List.cons_append,List.nil_append];have n0:=B3 (c:=185::(leB i 2++rest)) (n:=0) (show _=some _ from rfl);have n4:nmR (185::(leB i 2++rest)) 1 2=i:=by have:=L7 (c:=185::(leB i 2++rest)) (n:=1) (k:=2) (i:=i) (r:=rest) rfl (by simp[A8]<;>omega);rw[this];omega
   refine⟨?_,?_,?_,?_⟩
   all_goals exact Y8
  ·have e:B5 ⟨1,2,0,16,i⟩=186::leB i 2:=rfl;rw[e];simp only[List.cons_append,List.nil_append];have n0:=B3 (c:=186::(leB i 2++rest)) (n:=0) (show _=some _ from rfl);have n4:nmR (186::(leB i 2++rest)) 1 2=i:=by have:=L7 (c:=186::(leB i 2++rest)) (n:=1) (k:=2) (i:=i) (r:=rest) rfl (by simp[A8]<;>omega);rw[this];omega
   refine⟨?_,?_,?_,?_⟩
   all_goals exact Y8
  ·have e:B5 ⟨1,3,0,16,i⟩=187::leB i 2:=rfl;rw[e];simp only[List.cons_append,List.nil_append];have n0:=B3 (c:=187::(leB i 2++rest)) (n:=0) (show _=some _ from rfl);have n4:nmR (187::(leB i 2++rest)) 1 2=i:=by have:=L7 (c:=187::(leB i 2++rest)) (n:=1) (k:=2) (i:=i) (r:=rest) rfl (by simp[A8]<;>omega);rw[this];omega
   refine⟨?_,?_,?_,?_⟩
   all_goals exact Y8
  ·have e:B5 ⟨1,4,0,16,i⟩=188::leB i 2:=rfl;rw[e];simp only[List.cons_append,List.nil_append];have n0:=B3 (c:=188::(leB i 2++rest)) (n:=0) (show _=some _ from rfl);have n4:nmR (188::(leB i 2++rest)) 1 2=i:=by have:=L7 (c:=188::(leB i 2++rest)) (n:=1) (k:=2) (i:=i) (r:=rest) rfl (by simp[A8]<;>omega);rw[this];omega
   refine⟨?_,?_,?_,?_⟩
   all_goals exact Y8
  ·have e:B5 ⟨1,5,0,16,i⟩=189::leB i 2:=rfl;rw[e];simp only[List.cons_append,List.nil_append];have n0:=B3 (c:=189::(leB i 2++rest)) (n:=0) (show _=some _ from rfl);have n4:nmR (189::(leB i 2++rest)) 1 2=i:=by have:=L7 (c:=189::(leB i 2++rest)) (n:=1) (k:=2) (i:=i) (r:=rest) rfl (by simp[A8]<;>omega);rw[this];omega
   refine⟨?_,?_,?_,?_⟩
   all_goals exact Y8
  ·have e:B5 ⟨1,6,0,16,i⟩=190::leB i 2:=rfl;rw[e];simp only[List.cons_append,List.nil_append];have n0:=B3 (c:=190::(leB i 2++rest)) (n:=0) (show _=some _ from rfl);have n4:nmR (190::(leB i 2++rest)) 1 2=i:=by have:=L7 (c:=190::(leB i 2++rest)) (n:=1) (k:=2) (i:=i) (r:=rest) rfl (by simp[A8]<;>omega);rw[this];omega
   refine⟨?_,?_,?_,?_⟩
   all_goals exact Y8
  ·have e:B5 ⟨1,7,0,16,i⟩=191::leB i 2:=rfl;rw[e];simp only[List.cons_append,List.nil_append];have n0:=B3 (c:=191::(leB i 2++rest)) (n:=0) (show _=some _ from rfl);have n4:nmR (191::(leB i 2++rest)) 1 2=i:=by have:=L7 (c:=191::(leB i 2++rest)) (n:=1) (k:=2) (i:=i) (r:=rest) rfl (by simp[A8]<;>omega);rw[this];omega
   refine⟨?_,?_,?_,?_⟩
   all_goals exact Y8
theorem B6H(d s z i:Int)(rest:List Int)(h:okI ⟨2,d,s,z,i⟩=true):I1 ⟨2,d,s,z,i⟩ rest:=by
 have hz:=F6 h;have hf:=D4 h;clear h;simp[szI]at hz;simp[G7,J0,isR,isM,isL,isC,isB,I5,inZ,pwZ]at hf;unfold I1;have b1:0≤d∧d≤7∧0≤s∧s≤7∧-2147483648≤i∧i≤2147483647:=by omega
 obtain⟨d1,d2,s1,s2,i1,i2⟩:=b1;obtain⟨f1,f2,f3,f4,f5⟩:=A6X (r:=d) (m:=s) (by omega) (by omega) (by omega) (by omega);have e:∀z,B5 ⟨2,d,s,z,i⟩=139::((128+8*d+s)%256)::leB i 4:=fun _=>rfl
 rw[e];generalize(128+8*d+s)%256=q at*
 clear e hf;simp only[List.cons_append,List.nil_append];have n0:=B3 (c:=139::q::(leB i 4++rest)) (n:=0) (show _=some _ from rfl);have n1:=B3 (c:=139::q::(leB i 4++rest)) (n:=1) (show _=some _ from rfl);have n4:nmR (139::q::(leB i 4++rest)) 2 4=i%4294967296:=L7 (i:=i) (r:=rest) rfl (by simp[A8]<;>omega);have d4:=rd4 i rest;have w4:=A3A i1 i2;have lb:=M4 i 4;have ll:=A8 i 4;have gq:¬192≤q:=by omega
 rcases hz with rfl|rfl
 all_goals refine⟨?_,?_,?_,?_⟩
 all_goals exact B1C
theorem B6G(d s z i:Int)(rest:List Int)(h:okI ⟨3,d,s,z,i⟩=true):I1 ⟨3,d,s,z,i⟩ rest:=by
 have hz:=F6 h;have hf:=D4 h;clear h;simp[szI]at hz;simp[G7,J0,isR,isM,isL,isC,isB,I5,inZ,pwZ]at hf;unfold I1;have b1:0≤d∧d≤7∧0≤s∧s≤7∧-2147483648≤i∧i≤2147483647:=by omega
 obtain⟨d1,d2,s1,s2,i1,i2⟩:=b1;obtain⟨f1,f2,f3,f4,f5⟩:=A6X (r:=s) (m:=d) (by omega) (by omega) (by omega) (by omega);have e:∀z,B5 ⟨3,d,s,z,i⟩=137::((128+8*s+d)%256)::leB i 4:=fun _=>rfl
 rw[e];generalize(128+8*s+d)%256=q at*
 clear e hf;simp only[List.cons_append,List.nil_append];have n0:=B3 (c:=137::q::(leB i 4++rest)) (n:=0) (show _=some _ from rfl);have n1:=B3 (c:=137::q::(leB i 4++rest)) (n:=1) (show _=some _ from rfl);have n4:nmR (137::q::(leB i 4++rest)) 2 4=i%4294967296:=L7 (i:=i) (r:=rest) rfl (by simp[A8]<;>omega);have d4:=rd4 i rest;have w4:=A3A i1 i2;have lb:=M4 i 4;have ll:=A8 i 4;have gq:¬192≤q:=by omega
 rcases hz with rfl|rfl
 all_goals refine⟨?_,?_,?_,?_⟩
 all_goals exact B1C
theorem B6F(d s z i:Int)(rest:List Int)(h:okI ⟨4,d,s,z,i⟩=true):I1 ⟨4,d,s,z,i⟩ rest:=by
 have hz:=F6 h;have hf:=D4 h;clear h;simp[szI]at hz;simp[G7,J0,isR,isM,isL,isC,isB,I5,inZ,pwZ]at hf;unfold I1;have b1:0≤d∧d≤7∧0≤s∧s≤7∧-2147483648≤i∧i≤2147483647:=by omega
 obtain⟨d1,d2,s1,s2,i1,i2⟩:=b1;obtain⟨f1,f2,f3,f4,f5⟩:=A6X (r:=d) (m:=s) (by omega) (by omega) (by omega) (by omega);have e:∀z,B5 ⟨4,d,s,z,i⟩=15::182::((128+8*d+s)%256)::leB i 4:=fun _=>rfl
 rw[e];generalize(128+8*d+s)%256=q at*
 clear e hf;simp only[List.cons_append,List.nil_append];have n0:=B3 (c:=15::182::q::(leB i 4++rest)) (n:=0) (show _=some _ from rfl);have n1:=B3 (c:=15::182::q::(leB i 4++rest)) (n:=1) (show _=some _ from rfl);have n2:=B3 (c:=15::182::q::(leB i 4++rest)) (n:=2) (show _=some _ from rfl);have n4:nmR (15::182::q::(leB i 4++rest)) 3 4=i%4294967296:=L7 (i:=i) (r:=rest) rfl (by simp[A8]<;>omega);have d4:=rd4 i rest;have w4:=A3A i1 i2;have lb:=M4 i 4;have ll:=A8 i 4;have gq:¬192≤q:=by omega
 exact B3K
theorem B6E(d s z i:Int)(rest:List Int)(h:okI ⟨5,d,s,z,i⟩=true):I1 ⟨5,d,s,z,i⟩ rest:=by
 have hz:=F6 h;have hf:=D4 h;clear h;simp[szI]at hz;simp[G7,J0,isR,isM,isL,isC,isB,I5,inZ,pwZ]at hf;unfold I1;have b1:0≤d∧d≤7∧0≤s∧s≤7∧-2147483648≤i∧i≤2147483647:=by omega
 obtain⟨d1,d2,s1,s2,i1,i2⟩:=b1;obtain⟨f1,f2,f3,f4,f5⟩:=A6X (r:=d) (m:=s) (by omega) (by omega) (by omega) (by omega);have e:∀z,B5 ⟨5,d,s,z,i⟩=15::183::((128+8*d+s)%256)::leB i 4:=fun _=>rfl
 rw[e];generalize(128+8*d+s)%256=q at*
 clear e hf;simp only[List.cons_append,List.nil_append];have n0:=B3 (c:=15::183::q::(leB i 4++rest)) (n:=0) (show _=some _ from rfl);have n1:=B3 (c:=15::183::q::(leB i 4++rest)) (n:=1) (show _=some _ from rfl);have n2:=B3 (c:=15::183::q::(leB i 4++rest)) (n:=2) (show _=some _ from rfl);have n4:nmR (15::183::q::(leB i 4++rest)) 3 4=i%4294967296:=L7 (i:=i) (r:=rest) rfl (by simp[A8]<;>omega);have d4:=rd4 i rest;have w4:=A3A i1 i2;have lb:=M4 i 4;have ll:=A8 i 4;have gq:¬192≤q:=by omega
 exact B3K
theorem B6D(d s z i:Int)(rest:List Int)(h:okI ⟨6,d,s,z,i⟩=true):I1 ⟨6,d,s,z,i⟩ rest:=by
 have hz:=F6 h;have hf:=D4 h;clear h;simp[szI]at hz;simp[G7,J0,isR,isM,isL,isC,isB,I5,inZ,pwZ]at hf;unfold I1;have b1:0≤d∧d≤7∧0≤s∧s≤7∧-2147483648≤i∧i≤2147483647:=by omega
 obtain⟨d1,d2,s1,s2,i1,i2⟩:=b1;obtain⟨f1,f2,f3,f4,f5⟩:=A6X (r:=s) (m:=d) (by omega) (by omega) (by omega) (by omega);have e:∀z,B5 ⟨6,d,s,z,i⟩=136::((128+8*s+d)%256)::leB i 4:=fun _=>rfl
 rw[e];generalize(128+8*s+d)%256=q at*
 clear e hf;simp only[List.cons_append,List.nil_append];have n0:=B3 (c:=136::q::(leB i 4++rest)) (n:=0) (show _=some _ from rfl);have n1:=B3 (c:=136::q::(leB i 4++rest)) (n:=1) (show _=some _ from rfl);have n4:nmR (136::q::(leB i 4++rest)) 2 4=i%4294967296:=L7 (i:=i) (r:=rest) rfl (by simp[A8]<;>omega);have d4:=rd4 i rest;have w4:=A3A i1 i2;have lb:=M4 i 4;have ll:=A8 i 4;have gq:¬192≤q:=by omega
 subst hz
 all_goals refine⟨?_,?_,?_,?_⟩
 all_goals exact B1C
theorem B6C(d s z i:Int)(rest:List Int)(h:okI ⟨7,d,s,z,i⟩=true):I1 ⟨7,d,s,z,i⟩ rest:=by
 have hz:=F6 h;have hf:=D4 h;clear h;simp[szI]at hz;simp[G7,J0,isR,isM,isL,isC,isB,I5,inZ,pwZ]at hf;unfold I1;have b1:0≤d∧d≤7∧0≤s∧s≤7∧i=0:=by omega
 obtain⟨d1,d2,s1,s2,rfl⟩:=b1;obtain⟨f1,f2,f3,f4,f5⟩:=S6 (r:=s) (m:=d) (by omega) (by omega) (by omega) (by omega);have e:∀z,B5 ⟨7,d,s,z,0⟩=[1,mrB s d]:=fun _=>rfl
 rw[e];generalize mrB s d=q at*
 clear e hf;simp only[List.cons_append,List.nil_append];have n0:=B3 (c:=1::q::rest) (n:=0) (show _=some _ from rfl);have n1:=B3 (c:=1::q::rest) (n:=1) (show _=some _ from rfl);rcases hz with rfl|rfl
 all_goals refine⟨?_,?_,?_,?_⟩
 all_goals exact z8
theorem B6B(d s z i:Int)(rest:List Int)(h:okI ⟨8,d,s,z,i⟩=true):I1 ⟨8,d,s,z,i⟩ rest:=by
 have hz:=F6 h;have hf:=D4 h;clear h;simp[szI]at hz;simp[G7,J0,isR,isM,isL,isC,isB,I5,inZ,pwZ]at hf;unfold I1;have b1:0≤d∧d≤7∧0≤s∧s≤7∧i=0:=by omega
 obtain⟨d1,d2,s1,s2,rfl⟩:=b1;obtain⟨f1,f2,f3,f4,f5⟩:=S6 (r:=s) (m:=d) (by omega) (by omega) (by omega) (by omega);have e:∀z,B5 ⟨8,d,s,z,0⟩=[9,mrB s d]:=fun _=>rfl
 rw[e];generalize mrB s d=q at*
 clear e hf;simp only[List.cons_append,List.nil_append];have n0:=B3 (c:=9::q::rest) (n:=0) (show _=some _ from rfl);have n1:=B3 (c:=9::q::rest) (n:=1) (show _=some _ from rfl);rcases hz with rfl|rfl
 all_goals refine⟨?_,?_,?_,?_⟩
 all_goals exact z8
theorem B6A(d s z i:Int)(rest:List Int)(h:okI ⟨9,d,s,z,i⟩=true):I1 ⟨9,d,s,z,i⟩ rest:=by
 have hz:=F6 h;have hf:=D4 h;clear h;simp[szI]at hz;simp[G7,J0,isR,isM,isL,isC,isB,I5,inZ,pwZ]at hf;unfold I1;have b1:0≤d∧d≤7∧0≤s∧s≤7∧i=0:=by omega
 obtain⟨d1,d2,s1,s2,rfl⟩:=b1;obtain⟨f1,f2,f3,f4,f5⟩:=S6 (r:=s) (m:=d) (by omega) (by omega) (by omega) (by omega);have e:∀z,B5 ⟨9,d,s,z,0⟩=[33,mrB s d]:=fun _=>rfl
 rw[e];generalize mrB s d=q at*
 clear e hf;simp only[List.cons_append,List.nil_append];have n0:=B3 (c:=33::q::rest) (n:=0) (show _=some _ from rfl);have n1:=B3 (c:=33::q::rest) (n:=1) (show _=some _ from rfl);rcases hz with rfl|rfl
 all_goals refine⟨?_,?_,?_,?_⟩
 all_goals exact z8
theorem B5N(d s z i:Int)(rest:List Int)(h:okI ⟨10,d,s,z,i⟩=true):I1 ⟨10,d,s,z,i⟩ rest:=by
 have hz:=F6 h;have hf:=D4 h;clear h;simp[szI]at hz;simp[G7,J0,isR,isM,isL,isC,isB,I5,inZ,pwZ]at hf;unfold I1;have b1:0≤d∧d≤7∧0≤s∧s≤7∧i=0:=by omega
 obtain⟨d1,d2,s1,s2,rfl⟩:=b1;obtain⟨f1,f2,f3,f4,f5⟩:=S6 (r:=s) (m:=d) (by omega) (by omega) (by omega) (by omega);have e:∀z,B5 ⟨10,d,s,z,0⟩=[41,mrB s d]:=fun _=>rfl
 rw[e];generalize mrB s d=q at*
 clear e hf;simp only[List.cons_append,List.nil_append];have n0:=B3 (c:=41::q::rest) (n:=0) (show _=some _ from rfl);have n1:=B3 (c:=41::q::rest) (n:=1) (show _=some _ from rfl);rcases hz with rfl|rfl
 all_goals refine⟨?_,?_,?_,?_⟩
 all_goals exact z8
theorem B5M(d s z i:Int)(rest:List Int)(h:okI ⟨11,d,s,z,i⟩=true):I1 ⟨11,d,s,z,i⟩ rest:=by
 have hz:=F6 h;have hf:=D4 h;clear h;simp[szI]at hz;simp[G7,J0,isR,isM,isL,isC,isB,I5,inZ,pwZ]at hf;unfold I1;have b1:0≤d∧d≤7∧0≤s∧s≤7∧i=0:=by omega
 obtain⟨d1,d2,s1,s2,rfl⟩:=b1;obtain⟨f1,f2,f3,f4,f5⟩:=S6 (r:=s) (m:=d) (by omega) (by omega) (by omega) (by omega);have e:∀z,B5 ⟨11,d,s,z,0⟩=[49,mrB s d]:=fun _=>rfl
 rw[e];generalize mrB s d=q at*
 clear e hf;simp only[List.cons_append,List.nil_append];have n0:=B3 (c:=49::q::rest) (n:=0) (show _=some _ from rfl);have n1:=B3 (c:=49::q::rest) (n:=1) (show _=some _ from rfl);rcases hz with rfl|rfl
 all_goals refine⟨?_,?_,?_,?_⟩
 all_goals exact z8
theorem B5L(d s z i:Int)(rest:List Int)(h:okI ⟨12,d,s,z,i⟩=true):I1 ⟨12,d,s,z,i⟩ rest:=by
 have hz:=F6 h;have hf:=D4 h;clear h;simp[szI]at hz;simp[G7,J0,isR,isM,isL,isC,isB,I5,inZ,pwZ]at hf;unfold I1;have b1:0≤d∧d≤7∧0≤s∧s≤7∧i=0:=by omega
 obtain⟨d1,d2,s1,s2,rfl⟩:=b1;obtain⟨f1,f2,f3,f4,f5⟩:=S6 (r:=s) (m:=d) (by omega) (by omega) (by omega) (by omega);have e:∀z,B5 ⟨12,d,s,z,0⟩=[57,mrB s d]:=fun _=>rfl
 rw[e];generalize mrB s d=q at*
 clear e hf;simp only[List.cons_append,List.nil_append];have n0:=B3 (c:=57::q::rest) (n:=0) (show _=some _ from rfl);have n1:=B3 (c:=57::q::rest) (n:=1) (show _=some _ from rfl);rcases hz with rfl|rfl
 all_goals refine⟨?_,?_,?_,?_⟩
 all_goals exact z8
theorem B5K(d s z i:Int)(rest:List Int)(h:okI ⟨13,d,s,z,i⟩=true):I1 ⟨13,d,s,z,i⟩ rest:=by
 have hz:=F6 h;have hf:=D4 h;clear h;simp[szI]at hz;simp[G7,J0,isR,isM,isL,isC,isB,I5,inZ,pwZ]at hf;unfold I1;have b1:0≤d∧d≤7∧0≤s∧s≤7∧i=0:=by omega
 obtain⟨d1,d2,s1,s2,rfl⟩:=b1;obtain⟨f1,f2,f3,f4,f5⟩:=S6 (r:=s) (m:=d) (by omega) (by omega) (by omega) (by omega);have e:∀z,B5 ⟨13,d,s,z,0⟩=[133,mrB s d]:=fun _=>rfl
 rw[e];generalize mrB s d=q at*
 clear e hf;simp only[List.cons_append,List.nil_append];have n0:=B3 (c:=133::q::rest) (n:=0) (show _=some _ from rfl);have n1:=B3 (c:=133::q::rest) (n:=1) (show _=some _ from rfl);rcases hz with rfl|rfl
 all_goals refine⟨?_,?_,?_,?_⟩
 all_goals exact z8
theorem p9(o D d s z i:Int)(rest:List Int)(ho:(o=14∧D=0)∨(o=15∧D=1)∨(o=16∧D=4)∨(o=17∧D=5)∨(o=18∧D=6)∨(o=19∧D=7))(h:okI ⟨o,d,s,z,i⟩=true):I1 ⟨o,d,s,z,i⟩ rest:=by
 have hB:∀z,B5 ⟨o,d,0,z,i⟩=if -128≤sgB i z∧sgB i z≤127 then[131,mrB D d,i%256]else 129::mrB D d::leB i (z / 8).toNat:=fun z=>by
  rcases ho with⟨rfl,rfl⟩|⟨rfl,rfl⟩|⟨rfl,rfl⟩|⟨rfl,rfl⟩|⟨rfl,rfl⟩|⟨rfl,rfl⟩<;>simp[B5,A0T]
 have hD:0≤D∧D≤7:=by omega
 obtain⟨D0,D7⟩:=hD;rcases ho with⟨rfl,hDe⟩|⟨rfl,hDe⟩|⟨rfl,hDe⟩|⟨rfl,hDe⟩|⟨rfl,hDe⟩|⟨rfl,hDe⟩
 all_goals
  have hz:=F6 h;have hf:=D4 h;clear h;simp[szI]at hz;unfold I1;rcases hz with rfl|rfl
  ·have ep:pwZ 32=4294967296:=rfl;simp[G7,J0,isR,isM,isL,isC,isB,I5,inZ]at hf;have b1:0≤d∧d≤7∧s=0∧0≤i∧i≤4294967295:=by omega
   obtain⟨d1,d2,rfl,i1,i2⟩:=b1;obtain⟨f1,f2,f3,f4,f5⟩:=S6 (r:=D) (m:=d) (by omega) (by omega) (by omega) (by omega);have em:i%4294967296=i:=by omega
   have rd:=rd4 i rest;rw[em]at rd;have lb:=M4 i 4;have ll:=A8 i 4;have es:sgB i 32=if 2147483648≤i then i-4294967296 else i:=rfl
   clear hf;by_cases hs: -128≤sgB i 32∧sgB i 32≤127
   ·have e:=(hB 32).trans (if_pos hs);have eg:sg8 (i%256)%4294967296=i:=by unfold sg8;rw[es]at hs;split at hs<;>split<;>omega
    rw[e];generalize mrB D d=q at*
    exact B3n
   ·have e:_=129::mrB D d::leB i 4:=(hB 32).trans (if_neg hs);rw[e];generalize mrB D d=q at*
    subst hDe;clear e hB es hs;simp only[List.cons_append,List.nil_append];have n0:=B3 (c:=129::q::(leB i 4++rest)) (n:=0) (show _=some _ from rfl);have n1:=B3 (c:=129::q::(leB i 4++rest)) (n:=1) (show _=some _ from rfl);have n4:nmR (129::q::(leB i 4++rest)) 2 4=i:=by have:=L7 (c:=129::q::(leB i 4++rest)) (n:=2) (k:=4) (i:=i) (r:=rest) rfl (by simp[A8]<;>omega);rw[this];omega
    clear em;refine⟨?_,?_,?_,?_⟩
    all_goals exact B3L
  ·have ep:pwZ 16=65536:=rfl;simp[G7,J0,isR,isM,isL,isC,isB,I5,inZ]at hf;have b1:0≤d∧d≤7∧s=0∧0≤i∧i≤65535:=by omega
   obtain⟨d1,d2,rfl,i1,i2⟩:=b1;obtain⟨f1,f2,f3,f4,f5⟩:=S6 (r:=D) (m:=d) (by omega) (by omega) (by omega) (by omega);have em:i%65536=i:=by omega
   have rd:=rd2 i rest;rw[em]at rd;have lb:=M4 i 2;have ll:=A8 i 2;have es:sgB i 16=if 32768≤i then i-65536 else i:=rfl
   clear hf;by_cases hs: -128≤sgB i 16∧sgB i 16≤127
   ·have e:=(hB 16).trans (if_pos hs);have eg:sg8 (i%256)%65536=i:=by unfold sg8;rw[es]at hs;split at hs<;>split<;>omega
    rw[e];generalize mrB D d=q at*
    exact B3n
   ·have e:_=129::mrB D d::leB i 2:=(hB 16).trans (if_neg hs);rw[e];generalize mrB D d=q at*
    subst hDe;clear e hB es hs;simp only[List.cons_append,List.nil_append];have n0:=B3 (c:=129::q::(leB i 2++rest)) (n:=0) (show _=some _ from rfl);have n1:=B3 (c:=129::q::(leB i 2++rest)) (n:=1) (show _=some _ from rfl);have n4:nmR (129::q::(leB i 2++rest)) 2 2=i:=by have:=L7 (c:=129::q::(leB i 2++rest)) (n:=2) (k:=2) (i:=i) (r:=rest) rfl (by simp[A8]<;>omega);rw[this];omega
    clear em;refine⟨?_,?_,?_,?_⟩
    all_goals exact B3L
theorem B5J(d s z i:Int)(rest:List Int)(h:okI ⟨20,d,s,z,i⟩=true):I1 ⟨20,d,s,z,i⟩ rest:=by
 have hz:=F6 h;have hf:=D4 h;clear h;simp[szI]at hz;simp[G7,J0,isR,isM,isL,isC,isB,I5,inZ,pwZ]at hf;unfold I1;have b1:0≤d∧d≤7∧0≤s∧s≤7∧i=0:=by omega
 obtain⟨d1,d2,s1,s2,rfl⟩:=b1;obtain⟨f1,f2,f3,f4,f5⟩:=S6 (r:=d) (m:=s) (by omega) (by omega) (by omega) (by omega);have e:∀z,B5 ⟨20,d,s,z,0⟩=[15,175,mrB d s]:=fun _=>rfl
 rw[e];generalize mrB d s=q at*
 clear e hf;simp only[List.cons_append,List.nil_append];have n0:=B3 (c:=15::175::q::rest) (n:=0) (show _=some _ from rfl);have n1:=B3 (c:=15::175::q::rest) (n:=1) (show _=some _ from rfl);have n2:=B3 (c:=15::175::q::rest) (n:=2) (show _=some _ from rfl);subst hz;refine⟨?_,?_,?_,?_⟩
 all_goals exact N9
theorem B5I(d s z i:Int)(rest:List Int)(h:okI ⟨21,d,s,z,i⟩=true):I1 ⟨21,d,s,z,i⟩ rest:=by
 have hz:=F6 h;have hf:=D4 h;clear h;simp[szI]at hz;simp[G7,J0,isR,isM,isL,isC,isB,I5,inZ,pwZ]at hf;unfold I1;have b1:0≤d∧d≤7∧0≤s∧s≤7∧i=0∧s=0:=by omega
 obtain⟨d1,d2,s1,s2,rfl,rfl⟩:=b1;obtain⟨f1,f2,f3,f4,f5⟩:=S6 (r:=4) (m:=d) (by omega) (by omega) (by omega) (by omega);have e:∀z,B5 ⟨21,d,0,z,0⟩=[211,mrB 4 d]:=fun _=>rfl
 rw[e];generalize mrB 4 d=q at*
 clear e hf;exact B1N
theorem B5H(d s z i:Int)(rest:List Int)(h:okI ⟨22,d,s,z,i⟩=true):I1 ⟨22,d,s,z,i⟩ rest:=by
 have hz:=F6 h;have hf:=D4 h;clear h;simp[szI]at hz;simp[G7,J0,isR,isM,isL,isC,isB,I5,inZ,pwZ]at hf;unfold I1;have b1:0≤d∧d≤7∧0≤s∧s≤7∧i=0∧s=0:=by omega
 obtain⟨d1,d2,s1,s2,rfl,rfl⟩:=b1;obtain⟨f1,f2,f3,f4,f5⟩:=S6 (r:=5) (m:=d) (by omega) (by omega) (by omega) (by omega);have e:∀z,B5 ⟨22,d,0,z,0⟩=[211,mrB 5 d]:=fun _=>rfl
 rw[e];generalize mrB 5 d=q at*
 clear e hf;exact B1N
theorem B5G(d s z i:Int)(rest:List Int)(h:okI ⟨23,d,s,z,i⟩=true):I1 ⟨23,d,s,z,i⟩ rest:=by
 have hz:=F6 h;have hf:=D4 h;clear h;simp[szI]at hz;simp[G7,J0,isR,isM,isL,isC,isB,I5,inZ,pwZ]at hf;unfold I1;have b1:0≤d∧d≤7∧0≤s∧s≤7∧i=0∧s=0:=by omega
 obtain⟨d1,d2,s1,s2,rfl,rfl⟩:=b1;obtain⟨f1,f2,f3,f4,f5⟩:=S6 (r:=7) (m:=d) (by omega) (by omega) (by omega) (by omega);have e:∀z,B5 ⟨23,d,0,z,0⟩=[211,mrB 7 d]:=fun _=>rfl
 rw[e];generalize mrB 7 d=q at*
 clear e hf;exact B1N
theorem B5F(d s z i:Int)(rest:List Int)(h:okI ⟨24,d,s,z,i⟩=true):I1 ⟨24,d,s,z,i⟩ rest:=by
 have hz:=F6 h;have hf:=D4 h;clear h;simp[szI]at hz;simp[G7,J0,isR,isM,isL,isC,isB,I5,inZ,pwZ]at hf;unfold I1;have b1:0≤d∧d≤7∧0≤s∧s≤7∧i=0∧s=0:=by omega
 obtain⟨d1,d2,s1,s2,rfl,rfl⟩:=b1;obtain⟨f1,f2,f3,f4,f5⟩:=S6 (r:=2) (m:=d) (by omega) (by omega) (by omega) (by omega);have e:∀z,B5 ⟨24,d,0,z,0⟩=[247,mrB 2 d]:=fun _=>rfl
 rw[e];generalize mrB 2 d=q at*
 clear e hf;exact B3S
theorem B5E(d s z i:Int)(rest:List Int)(h:okI ⟨25,d,s,z,i⟩=true):I1 ⟨25,d,s,z,i⟩ rest:=by
 have hz:=F6 h;have hf:=D4 h;clear h;simp[szI]at hz;simp[G7,J0,isR,isM,isL,isC,isB,I5,inZ,pwZ]at hf;unfold I1;have b1:0≤d∧d≤7∧0≤s∧s≤7∧i=0∧s=0:=by omega
 obtain⟨d1,d2,s1,s2,rfl,rfl⟩:=b1;obtain⟨f1,f2,f3,f4,f5⟩:=S6 (r:=3) (m:=d) (by omega) (by omega) (by omega) (by omega);have e:∀z,B5 ⟨25,d,0,z,0⟩=[247,mrB 3 d]:=fun _=>rfl
 rw[e];generalize mrB 3 d=q at*
 clear e hf;exact B3S
theorem B5D(d s z i:Int)(rest:List Int)(h:okI ⟨26,d,s,z,i⟩=true):I1 ⟨26,d,s,z,i⟩ rest:=by
 have hz:=F6 h;have hf:=D4 h;clear h;simp[szI]at hz;simp[G7,J0,isR,isM,isL,isC,isB,I5,inZ,pwZ]at hf;unfold I1;have b1:0≤d∧d≤7∧0≤s∧s≤7∧i=0∧s=0:=by omega
 obtain⟨d1,d2,s1,s2,rfl,rfl⟩:=b1;obtain⟨f1,f2,f3,f4,f5⟩:=S6 (r:=6) (m:=d) (by omega) (by omega) (by omega) (by omega);have e:∀z,B5 ⟨26,d,0,z,0⟩=[247,mrB 6 d]:=fun _=>rfl
 rw[e];generalize mrB 6 d=q at*
 clear e hf;exact B0D
theorem B5C(d s z i:Int)(rest:List Int)(h:okI ⟨27,d,s,z,i⟩=true):I1 ⟨27,d,s,z,i⟩ rest:=by
 have hz:=F6 h;have hf:=D4 h;clear h;simp[szI]at hz;simp[G7,J0,isR,isM,isL,isC,isB,I5,inZ,pwZ]at hf;unfold I1;have b1:0≤d∧d≤7∧0≤s∧s≤7∧i=0∧s=0:=by omega
 obtain⟨d1,d2,s1,s2,rfl,rfl⟩:=b1;obtain⟨f1,f2,f3,f4,f5⟩:=S6 (r:=7) (m:=d) (by omega) (by omega) (by omega) (by omega);have e:∀z,B5 ⟨27,d,0,z,0⟩=[247,mrB 7 d]:=fun _=>rfl
 rw[e];generalize mrB 7 d=q at*
 clear e hf;exact B0D
theorem B5B(d s z i:Int)(rest:List Int)(h:okI ⟨28,d,s,z,i⟩=true):I1 ⟨28,d,s,z,i⟩ rest:=by
 have hz:=F6 h;have hf:=D4 h;clear h;simp[szI]at hz;unfold I1;subst hz;simp[G7,J0,isR,isM,isL,isC,isB,I5,inZ,pwZ]at hf;obtain⟨rfl,rfl,rfl⟩:d=0∧s=0∧i=0:=by omega
 have e:B5 ⟨28,0,0,32,0⟩=[153]:=rfl;rw[e];clear e hf;simp only[List.cons_append,List.nil_append];have n0:=B3 (c:=153::rest) (n:=0) (show _=some _ from rfl);refine⟨?_,?_,?_,?_⟩
 all_goals exact B1B
theorem B5A(d s z i:Int)(rest:List Int)(h:okI ⟨29,d,s,z,i⟩=true):I1 ⟨29,d,s,z,i⟩ rest:=by
 have hz:=F6 h;have hf:=D4 h;clear h;simp[szI]at hz;unfold I1;subst hz;simp[G7,J0,isR,isM,isL,isC,isB,I5,inZ,pwZ]at hf;have b1:0≤d∧d≤7∧i=0∧(s=0∨s=1∨s=2∨s=3∨s=4∨s=5∨s=6∨s=7∨s=8∨s=9∨s=12∨s=13∨s=14∨s=15):=by omega
 obtain⟨d1,d2,rfl,hc⟩:=b1;obtain⟨f1,f2,f3,f4,f5⟩:=S6 (r:=0) (m:=d) (by omega) (by omega) (by omega) (by omega);clear hf;rcases hc with rfl|rfl|rfl|rfl|rfl|rfl|rfl|rfl|rfl|rfl|rfl|rfl|rfl|rfl
 ·have e:B5 ⟨29,d,0,32,0⟩=[15,144,mrB 0 d]:=rfl;rw[e];generalize mrB 0 d=q at*
  clear e;simp only[List.cons_append,List.nil_append];have n0:=B3 (c:=15::144::q::rest) (n:=0) (show _=some _ from rfl);have n1:=B3 (c:=15::144::q::rest) (n:=1) (show _=some _ from rfl);have n2:=B3 (c:=15::144::q::rest) (n:=2) (show _=some _ from rfl);refine⟨?_,?_,?_,?_⟩
  all_goals exact N9
 ·have e:B5 ⟨29,d,1,32,0⟩=[15,145,mrB 0 d]:=rfl;rw[e];generalize mrB 0 d=q at*
  clear e;simp only[List.cons_append,List.nil_append];have n0:=B3 (c:=15::145::q::rest) (n:=0) (show _=some _ from rfl);have n1:=B3 (c:=15::145::q::rest) (n:=1) (show _=some _ from rfl);have n2:=B3 (c:=15::145::q::rest) (n:=2) (show _=some _ from rfl);refine⟨?_,?_,?_,?_⟩
  all_goals exact N9
 ·have e:B5 ⟨29,d,2,32,0⟩=[15,146,mrB 0 d]:=rfl;rw[e];generalize mrB 0 d=q at*
  clear e;simp only[List.cons_append,List.nil_append];have n0:=B3 (c:=15::146::q::rest) (n:=0) (show _=some _ from rfl);have n1:=B3 (c:=15::146::q::rest) (n:=1) (show _=some _ from rfl);have n2:=B3 (c:=15::146::q::rest) (n:=2) (show _=some _ from rfl);refine⟨?_,?_,?_,?_⟩
  all_goals exact N9
 ·have e:B5 ⟨29,d,3,32,0⟩=[15,147,mrB 0 d]:=rfl;rw[e];generalize mrB 0 d=q at*
  clear e;simp only[List.cons_append,List.nil_append];have n0:=B3 (c:=15::147::q::rest) (n:=0) (show _=some _ from rfl);have n1:=B3 (c:=15::147::q::rest) (n:=1) (show _=some _ from rfl);have n2:=B3 (c:=15::147::q::rest) (n:=2) (show _=some _ from rfl);refine⟨?_,?_,?_,?_⟩
  all_goals exact N9
 ·have e:B5 ⟨29,d,4,32,0⟩=[15,148,mrB 0 d]:=rfl;rw[e];generalize mrB 0 d=q at*
  clear e;simp only[List.cons_append,List.nil_append];have n0:=B3 (c:=15::148::q::rest) (n:=0) (show _=some _ from rfl);have n1:=B3 (c:=15::148::q::rest) (n:=1) (show _=some _ from rfl);have n2:=B3 (c:=15::148::q::rest) (n:=2) (show _=some _ from rfl);refine⟨?_,?_,?_,?_⟩
  all_goals exact N9
 ·have e:B5 ⟨29,d,5,32,0⟩=[15,149,mrB 0 d]:=rfl;rw[e];generalize mrB 0 d=q at*
  clear e;simp only[List.cons_append,List.nil_append];have n0:=B3 (c:=15::149::q::rest) (n:=0) (show _=some _ from rfl);have n1:=B3 (c:=15::149::q::rest) (n:=1) (show _=some _ from rfl);have n2:=B3 (c:=15::149::q::rest) (n:=2) (show _=some _ from rfl);refine⟨?_,?_,?_,?_⟩
  all_goals exact N9
 ·have e:B5 ⟨29,d,6,32,0⟩=[15,150,mrB 0 d]:=rfl;rw[e];generalize mrB 0 d=q at*
  clear e;simp only[List.cons_append,List.nil_append];have n0:=B3 (c:=15::150::q::rest) (n:=0) (show _=some _ from rfl);have n1:=B3 (c:=15::150::q::rest) (n:=1) (show _=some _ from rfl);have n2:=B3 (c:=15::150::q::rest) (n:=2) (show _=some _ from rfl);refine⟨?_,?_,?_,?_⟩
  all_goals exact N9
 ·have e:B5 ⟨29,d,7,32,0⟩=[15,151,mrB 0 d]:=rfl;rw[e];generalize mrB 0 d=q at*
  clear e;simp only[List.cons_append,List.nil_append];have n0:=B3 (c:=15::151::q::rest) (n:=0) (show _=some _ from rfl);have n1:=B3 (c:=15::151::q::rest) (n:=1) (show _=some _ from rfl);have n2:=B3 (c:=15::151::q::rest) (n:=2) (show _=some _ from rfl);refine⟨?_,?_,?_,?_⟩
  all_goals exact N9
 ·have e:B5 ⟨29,d,8,32,0⟩=[15,152,mrB 0 d]:=rfl;rw[e];generalize mrB 0 d=q at*
  clear e;simp only[List.cons_append,List.nil_append];have n0:=B3 (c:=15::152::q::rest) (n:=0) (show _=some _ from rfl);have n1:=B3 (c:=15::152::q::rest) (n:=1) (show _=some _ from rfl);have n2:=B3 (c:=15::152::q::rest) (n:=2) (show _=some _ from rfl);refine⟨?_,?_,?_,?_⟩
  all_goals exact N9
 ·have e:B5 ⟨29,d,9,32,0⟩=[15,153,mrB 0 d]:=rfl;rw[e];generalize mrB 0 d=q at*
  clear e;simp only[List.cons_append,List.nil_append];have n0:=B3 (c:=15::153::q::rest) (n:=0) (show _=some _ from rfl);have n1:=B3 (c:=15::153::q::rest) (n:=1) (show _=some _ from rfl);have n2:=B3 (c:=15::153::q::rest) (n:=2) (show _=some _ from rfl);refine⟨?_,?_,?_,?_⟩
  all_goals exact N9
 ·have e:B5 ⟨29,d,12,32,0⟩=[15,156,mrB 0 d]:=rfl;rw[e];generalize mrB 0 d=q at*
  clear e;simp only[List.cons_append,List.nil_append];have n0:=B3 (c:=15::156::q::rest) (n:=0) (show _=some _ from rfl);have n1:=B3 (c:=15::156::q::rest) (n:=1) (show _=some _ from rfl);have n2:=B3 (c:=15::156::q::rest) (n:=2) (show _=some _ from rfl);refine⟨?_,?_,?_,?_⟩
  all_goals exact N9
 ·have e:B5 ⟨29,d,13,32,0⟩=[15,157,mrB 0 d]:=rfl;rw[e];generalize mrB 0 d=q at*
  clear e;simp only[List.cons_append,List.nil_append];have n0:=B3 (c:=15::157::q::rest) (n:=0) (show _=some _ from rfl);have n1:=B3 (c:=15::157::q::rest) (n:=1) (show _=some _ from rfl);have n2:=B3 (c:=15::157::q::rest) (n:=2) (show _=some _ from rfl);refine⟨?_,?_,?_,?_⟩
  all_goals exact N9
 ·have e:B5 ⟨29,d,14,32,0⟩=[15,158,mrB 0 d]:=rfl;rw[e];generalize mrB 0 d=q at*
  clear e;simp only[List.cons_append,List.nil_append];have n0:=B3 (c:=15::158::q::rest) (n:=0) (show _=some _ from rfl);have n1:=B3 (c:=15::158::q::rest) (n:=1) (show _=some _ from rfl);have n2:=B3 (c:=15::158::q::rest) (n:=2) (show _=some _ from rfl);refine⟨?_,?_,?_,?_⟩
  all_goals exact N9
 ·have e:B5 ⟨29,d,15,32,0⟩=[15,159,mrB 0 d]:=rfl;rw[e];generalize mrB 0 d=q at*
  clear e;simp only[List.cons_append,List.nil_append];have n0:=B3 (c:=15::159::q::rest) (n:=0) (show _=some _ from rfl);have n1:=B3 (c:=15::159::q::rest) (n:=1) (show _=some _ from rfl);have n2:=B3 (c:=15::159::q::rest) (n:=2) (show _=some _ from rfl);refine⟨?_,?_,?_,?_⟩
  all_goals exact N9
theorem B4z(d s z i:Int)(rest:List Int)(h:okI ⟨30,d,s,z,i⟩=true):I1 ⟨30,d,s,z,i⟩ rest:=by
 have hz:=F6 h;have hf:=D4 h;clear h;simp[szI]at hz;simp[G7,J0,isR,isM,isL,isC,isB,I5,inZ,pwZ]at hf;unfold I1;have b1:0≤d∧d≤7∧0≤s∧s≤7∧i=0:=by omega
 obtain⟨d1,d2,s1,s2,rfl⟩:=b1;obtain⟨f1,f2,f3,f4,f5⟩:=S6 (r:=d) (m:=s) (by omega) (by omega) (by omega) (by omega);have e:∀z,B5 ⟨30,d,s,z,0⟩=[15,182,mrB d s]:=fun _=>rfl
 rw[e];generalize mrB d s=q at*
 clear e hf;simp only[List.cons_append,List.nil_append];have n0:=B3 (c:=15::182::q::rest) (n:=0) (show _=some _ from rfl);have n1:=B3 (c:=15::182::q::rest) (n:=1) (show _=some _ from rfl);have n2:=B3 (c:=15::182::q::rest) (n:=2) (show _=some _ from rfl);subst hz;refine⟨?_,?_,?_,?_⟩
 all_goals exact N9
theorem B4y(d s z i:Int)(rest:List Int)(h:okI ⟨31,d,s,z,i⟩=true):I1 ⟨31,d,s,z,i⟩ rest:=by
 have hz:=F6 h;have hf:=D4 h;clear h;simp[szI]at hz;unfold I1;subst hz;simp[G7,J0,isR,isM,isL,isC,isB,I5,inZ,pwZ]at hf;have b1:0≤d∧d≤7∧0≤s∧s≤7∧(i=0∨i=1∨i=2∨i=3∨i=4∨i=5∨i=6∨i=7∨i=8∨i=9∨i=12∨i=13∨i=14∨i=15):=by omega
 obtain⟨d1,d2,s1,s2,hc⟩:=b1;obtain⟨f1,f2,f3,f4,f5⟩:=S6 (r:=d) (m:=s) (by omega) (by omega) (by omega) (by omega);clear hf;rcases hc with rfl|rfl|rfl|rfl|rfl|rfl|rfl|rfl|rfl|rfl|rfl|rfl|rfl|rfl
 ·have e:B5 ⟨31,d,s,32,0⟩=[15,64,mrB d s]:=rfl;rw[e];generalize mrB d s=q at*
  clear e;simp only[List.cons_append,List.nil_append];have n0:=B3 (c:=15::64::q::rest) (n:=0) (show _=some _ from rfl);have n1:=B3 (c:=15::64::q::rest) (n:=1) (show _=some _ from rfl);have n2:=B3 (c:=15::64::q::rest) (n:=2) (show _=some _ from rfl);refine⟨?_,?_,?_,?_⟩
  all_goals exact N9
 ·have e:B5 ⟨31,d,s,32,1⟩=[15,65,mrB d s]:=rfl;rw[e];generalize mrB d s=q at*
  clear e;simp only[List.cons_append,List.nil_append];have n0:=B3 (c:=15::65::q::rest) (n:=0) (show _=some _ from rfl);have n1:=B3 (c:=15::65::q::rest) (n:=1) (show _=some _ from rfl);have n2:=B3 (c:=15::65::q::rest) (n:=2) (show _=some _ from rfl);refine⟨?_,?_,?_,?_⟩
  all_goals exact N9
 ·have e:B5 ⟨31,d,s,32,2⟩=[15,66,mrB d s]:=rfl;rw[e];generalize mrB d s=q at*
  clear e;simp only[List.cons_append,List.nil_append];have n0:=B3 (c:=15::66::q::rest) (n:=0) (show _=some _ from rfl);have n1:=B3 (c:=15::66::q::rest) (n:=1) (show _=some _ from rfl);have n2:=B3 (c:=15::66::q::rest) (n:=2) (show _=some _ from rfl);refine⟨?_,?_,?_,?_⟩
  all_goals exact N9
 ·have e:B5 ⟨31,d,s,32,3⟩=[15,67,mrB d s]:=rfl;rw[e];generalize mrB d s=q at*
  clear e;simp only[List.cons_append,List.nil_append];have n0:=B3 (c:=15::67::q::rest) (n:=0) (show _=some _ from rfl);have n1:=B3 (c:=15::67::q::rest) (n:=1) (show _=some _ from rfl);have n2:=B3 (c:=15::67::q::rest) (n:=2) (show _=some _ from rfl);refine⟨?_,?_,?_,?_⟩
  all_goals exact N9
 ·have e:B5 ⟨31,d,s,32,4⟩=[15,68,mrB d s]:=rfl;rw[e];generalize mrB d s=q at*
  clear e;simp only[List.cons_append,List.nil_append];have n0:=B3 (c:=15::68::q::rest) (n:=0) (show _=some _ from rfl);have n1:=B3 (c:=15::68::q::rest) (n:=1) (show _=some _ from rfl);have n2:=B3 (c:=15::68::q::rest) (n:=2) (show _=some _ from rfl);refine⟨?_,?_,?_,?_⟩
  all_goals exact N9
 ·have e:B5 ⟨31,d,s,32,5⟩=[15,69,mrB d s]:=rfl;rw[e];generalize mrB d s=q at*
  clear e;simp only[List.cons_append,List.nil_append];have n0:=B3 (c:=15::69::q::rest) (n:=0) (show _=some _ from rfl);have n1:=B3 (c:=15::69::q::rest) (n:=1) (show _=some _ from rfl);have n2:=B3 (c:=15::69::q::rest) (n:=2) (show _=some _ from rfl);refine⟨?_,?_,?_,?_⟩
  all_goals exact N9
 ·have e:B5 ⟨31,d,s,32,6⟩=[15,70,mrB d s]:=rfl;rw[e];generalize mrB d s=q at*
  clear e;simp only[List.cons_append,List.nil_append];have n0:=B3 (c:=15::70::q::rest) (n:=0) (show _=some _ from rfl);have n1:=B3 (c:=15::70::q::rest) (n:=1) (show _=some _ from rfl);have n2:=B3 (c:=15::70::q::rest) (n:=2) (show _=some _ from rfl);refine⟨?_,?_,?_,?_⟩
  all_goals exact N9
 ·have e:B5 ⟨31,d,s,32,7⟩=[15,71,mrB d s]:=rfl;rw[e];generalize mrB d s=q at*
  clear e;simp only[List.cons_append,List.nil_append];have n0:=B3 (c:=15::71::q::rest) (n:=0) (show _=some _ from rfl);have n1:=B3 (c:=15::71::q::rest) (n:=1) (show _=some _ from rfl);have n2:=B3 (c:=15::71::q::rest) (n:=2) (show _=some _ from rfl);refine⟨?_,?_,?_,?_⟩
  all_goals exact N9
 ·have e:B5 ⟨31,d,s,32,8⟩=[15,72,mrB d s]:=rfl;rw[e];generalize mrB d s=q at*
  clear e;simp only[List.cons_append,List.nil_append];have n0:=B3 (c:=15::72::q::rest) (n:=0) (show _=some _ from rfl);have n1:=B3 (c:=15::72::q::rest) (n:=1) (show _=some _ from rfl);have n2:=B3 (c:=15::72::q::rest) (n:=2) (show _=some _ from rfl);refine⟨?_,?_,?_,?_⟩
  all_goals exact N9
 ·have e:B5 ⟨31,d,s,32,9⟩=[15,73,mrB d s]:=rfl;rw[e];generalize mrB d s=q at*
  clear e;simp only[List.cons_append,List.nil_append];have n0:=B3 (c:=15::73::q::rest) (n:=0) (show _=some _ from rfl);have n1:=B3 (c:=15::73::q::rest) (n:=1) (show _=some _ from rfl);have n2:=B3 (c:=15::73::q::rest) (n:=2) (show _=some _ from rfl);refine⟨?_,?_,?_,?_⟩
  all_goals exact N9
 ·have e:B5 ⟨31,d,s,32,12⟩=[15,76,mrB d s]:=rfl;rw[e];generalize mrB d s=q at*
  clear e;simp only[List.cons_append,List.nil_append];have n0:=B3 (c:=15::76::q::rest) (n:=0) (show _=some _ from rfl);have n1:=B3 (c:=15::76::q::rest) (n:=1) (show _=some _ from rfl);have n2:=B3 (c:=15::76::q::rest) (n:=2) (show _=some _ from rfl);refine⟨?_,?_,?_,?_⟩
  all_goals exact N9
 ·have e:B5 ⟨31,d,s,32,13⟩=[15,77,mrB d s]:=rfl;rw[e];generalize mrB d s=q at*
  clear e;simp only[List.cons_append,List.nil_append];have n0:=B3 (c:=15::77::q::rest) (n:=0) (show _=some _ from rfl);have n1:=B3 (c:=15::77::q::rest) (n:=1) (show _=some _ from rfl);have n2:=B3 (c:=15::77::q::rest) (n:=2) (show _=some _ from rfl);refine⟨?_,?_,?_,?_⟩
  all_goals exact N9
 ·have e:B5 ⟨31,d,s,32,14⟩=[15,78,mrB d s]:=rfl;rw[e];generalize mrB d s=q at*
  clear e;simp only[List.cons_append,List.nil_append];have n0:=B3 (c:=15::78::q::rest) (n:=0) (show _=some _ from rfl);have n1:=B3 (c:=15::78::q::rest) (n:=1) (show _=some _ from rfl);have n2:=B3 (c:=15::78::q::rest) (n:=2) (show _=some _ from rfl);refine⟨?_,?_,?_,?_⟩
  all_goals exact N9
 ·have e:B5 ⟨31,d,s,32,15⟩=[15,79,mrB d s]:=rfl;rw[e];generalize mrB d s=q at*
  clear e;simp only[List.cons_append,List.nil_append];have n0:=B3 (c:=15::79::q::rest) (n:=0) (show _=some _ from rfl);have n1:=B3 (c:=15::79::q::rest) (n:=1) (show _=some _ from rfl);have n2:=B3 (c:=15::79::q::rest) (n:=2) (show _=some _ from rfl);refine⟨?_,?_,?_,?_⟩
  all_goals exact N9
theorem B4x(d s z i:Int)(rest:List Int)(h:okI ⟨32,d,s,z,i⟩=true):I1 ⟨32,d,s,z,i⟩ rest:=by
 have hz:=F6 h;have hf:=D4 h;clear h;simp[szI]at hz;unfold I1;rcases hz with rfl|rfl
 ·simp[G7,J0,isR,isM,isL,isC,isB,I5,inZ,pwZ]at hf;have b1:d=0∧-128≤i∧i≤127∧(s=0∨s=1∨s=2∨s=3∨s=4∨s=5∨s=6∨s=7∨s=8∨s=9∨s=12∨s=13∨s=14∨s=15):=by omega
  obtain⟨rfl,i1,i2,hc⟩:=b1;have sb:=B3G i1 i2;have hi:0≤i%256∧i%256<256:=by omega
  clear hf;rcases hc with rfl|rfl|rfl|rfl|rfl|rfl|rfl|rfl|rfl|rfl|rfl|rfl|rfl|rfl
  ·have e:B5 ⟨32,0,0,8,i⟩=[112,i%256]:=rfl;rw[e];generalize i%256=j at*
   clear e;simp only[List.cons_append,List.nil_append];have n0:=B3 (c:=112::j::rest) (n:=0) (show _=some _ from rfl);have n1:=B3 (c:=112::j::rest) (n:=1) (show _=some _ from rfl);refine⟨?_,?_,?_,?_⟩
   all_goals exact b6
  ·have e:B5 ⟨32,0,1,8,i⟩=[113,i%256]:=rfl;rw[e];generalize i%256=j at*
   clear e;simp only[List.cons_append,List.nil_append];have n0:=B3 (c:=113::j::rest) (n:=0) (show _=some _ from rfl);have n1:=B3 (c:=113::j::rest) (n:=1) (show _=some _ from rfl);refine⟨?_,?_,?_,?_⟩
   all_goals exact b6
  ·have e:B5 ⟨32,0,2,8,i⟩=[114,i%256]:=rfl;rw[e];generalize i%256=j at*
   clear e;simp only[List.cons_append,List.nil_append];have n0:=B3 (c:=114::j::rest) (n:=0) (show _=some _ from rfl);have n1:=B3 (c:=114::j::rest) (n:=1) (show _=some _ from rfl);refine⟨?_,?_,?_,?_⟩
   all_goals exact b6
  ·have e:B5 ⟨32,0,3,8,i⟩=[115,i%256]:=rfl;rw[e];generalize i%256=j at*
   clear e;simp only[List.cons_append,List.nil_append];have n0:=B3 (c:=115::j::rest) (n:=0) (show _=some _ from rfl);have n1:=B3 (c:=115::j::rest) (n:=1) (show _=some _ from rfl);refine⟨?_,?_,?_,?_⟩
   all_goals exact b6
  ·have e:B5 ⟨32,0,4,8,i⟩=[116,i%256]:=rfl;rw[e];generalize i%256=j at*
   clear e;simp only[List.cons_append,List.nil_append];have n0:=B3 (c:=116::j::rest) (n:=0) (show _=some _ from rfl);have n1:=B3 (c:=116::j::rest) (n:=1) (show _=some _ from rfl);refine⟨?_,?_,?_,?_⟩
   all_goals exact b6
  ·have e:B5 ⟨32,0,5,8,i⟩=[117,i%256]:=rfl;rw[e];generalize i%256=j at*
   clear e;simp only[List.cons_append,List.nil_append];have n0:=B3 (c:=117::j::rest) (n:=0) (show _=some _ from rfl);have n1:=B3 (c:=117::j::rest) (n:=1) (show _=some _ from rfl);refine⟨?_,?_,?_,?_⟩
   all_goals exact b6
  ·have e:B5 ⟨32,0,6,8,i⟩=[118,i%256]:=rfl;rw[e];generalize i%256=j at*
   clear e;simp only[List.cons_append,List.nil_append];have n0:=B3 (c:=118::j::rest) (n:=0) (show _=some _ from rfl);have n1:=B3 (c:=118::j::rest) (n:=1) (show _=some _ from rfl);refine⟨?_,?_,?_,?_⟩
   all_goals exact b6
  ·have e:B5 ⟨32,0,7,8,i⟩=[119,i%256]:=rfl;rw[e];generalize i%256=j at*
   clear e;simp only[List.cons_append,List.nil_append];have n0:=B3 (c:=119::j::rest) (n:=0) (show _=some _ from rfl);have n1:=B3 (c:=119::j::rest) (n:=1) (show _=some _ from rfl);refine⟨?_,?_,?_,?_⟩
   all_goals exact b6
  ·have e:B5 ⟨32,0,8,8,i⟩=[120,i%256]:=rfl;rw[e];generalize i%256=j at*
   clear e;simp only[List.cons_append,List.nil_append];have n0:=B3 (c:=120::j::rest) (n:=0) (show _=some _ from rfl);have n1:=B3 (c:=120::j::rest) (n:=1) (show _=some _ from rfl);refine⟨?_,?_,?_,?_⟩
   all_goals exact b6
  ·have e:B5 ⟨32,0,9,8,i⟩=[121,i%256]:=rfl;rw[e];generalize i%256=j at*
   clear e;simp only[List.cons_append,List.nil_append];have n0:=B3 (c:=121::j::rest) (n:=0) (show _=some _ from rfl);have n1:=B3 (c:=121::j::rest) (n:=1) (show _=some _ from rfl);refine⟨?_,?_,?_,?_⟩
   all_goals exact b6
  ·have e:B5 ⟨32,0,12,8,i⟩=[124,i%256]:=rfl;rw[e];generalize i%256=j at*
   clear e;simp only[List.cons_append,List.nil_append];have n0:=B3 (c:=124::j::rest) (n:=0) (show _=some _ from rfl);have n1:=B3 (c:=124::j::rest) (n:=1) (show _=some _ from rfl);refine⟨?_,?_,?_,?_⟩
   all_goals exact b6
  ·have e:B5 ⟨32,0,13,8,i⟩=[125,i%256]:=rfl;rw[e];generalize i%256=j at*
   clear e;simp only[List.cons_append,List.nil_append];have n0:=B3 (c:=125::j::rest) (n:=0) (show _=some _ from rfl);have n1:=B3 (c:=125::j::rest) (n:=1) (show _=some _ from rfl);refine⟨?_,?_,?_,?_⟩
   all_goals exact b6
  ·have e:B5 ⟨32,0,14,8,i⟩=[126,i%256]:=rfl;rw[e];generalize i%256=j at*
   clear e;simp only[List.cons_append,List.nil_append];have n0:=B3 (c:=126::j::rest) (n:=0) (show _=some _ from rfl);have n1:=B3 (c:=126::j::rest) (n:=1) (show _=some _ from rfl);refine⟨?_,?_,?_,?_⟩
   all_goals exact b6
  ·have e:B5 ⟨32,0,15,8,i⟩=[127,i%256]:=rfl;rw[e];generalize i%256=j at*
   clear e;simp only[List.cons_append,List.nil_append];have n0:=B3 (c:=127::j::rest) (n:=0) (show _=some _ from rfl);have n1:=B3 (c:=127::j::rest) (n:=1) (show _=some _ from rfl);refine⟨?_,?_,?_,?_⟩
   all_goals exact b6
 ·simp[G7,J0,isR,isM,isL,isC,isB,I5,inZ,pwZ]at hf;have b1:d=0∧-2147483648≤i∧i≤2147483647∧(s=0∨s=1∨s=2∨s=3∨s=4∨s=5∨s=6∨s=7∨s=8∨s=9∨s=12∨s=13∨s=14∨s=15):=by omega
  obtain⟨rfl,i1,i2,hc⟩:=b1;have d4:=rd4 i rest;have w4:=A3A i1 i2;have lb:=M4 i 4;have ll:=A8 i 4;clear hf;rcases hc with rfl|rfl|rfl|rfl|rfl|rfl|rfl|rfl|rfl|rfl|rfl|rfl|rfl|rfl
  ·have e:B5 ⟨32,0,0,32,i⟩=15::128::leB i 4:=rfl;rw[e];clear e;simp only[List.cons_append,List.nil_append];have n0:=B3 (c:=15::128::(leB i 4++rest)) (n:=0) (show _=some _ from rfl);have n1:=B3 (c:=15::128::(leB i 4++rest)) (n:=1) (show _=some _ from rfl);have n4:nmR (15::128::(leB i 4++rest)) 2 4=i%4294967296:=L7 (i:=i) (r:=rest) rfl (by simp[A8]<;>omega);refine⟨?_,?_,?_,?_⟩
   all_goals exact j6
  ·have e:B5 ⟨32,0,1,32,i⟩=15::129::leB i 4:=rfl;rw[e];clear e;simp only[List.cons_append,List.nil_append];have n0:=B3 (c:=15::129::(leB i 4++rest)) (n:=0) (show _=some _ from rfl);have n1:=B3 (c:=15::129::(leB i 4++rest)) (n:=1) (show _=some _ from rfl);have n4:nmR (15::129::(leB i 4++rest)) 2 4=i%4294967296:=L7 (i:=i) (r:=rest) rfl (by simp[A8]<;>omega);refine⟨?_,?_,?_,?_⟩
   all_goals exact j6
  ·have e:B5 ⟨32,0,2,32,i⟩=15::130::leB i 4:=rfl;rw[e];clear e;simp only[List.cons_append,List.nil_append];have n0:=B3 (c:=15::130::(leB i 4++rest)) (n:=0) (show _=some _ from rfl);have n1:=B3 (c:=15::130::(leB i 4++rest)) (n:=1) (show _=some _ from rfl);have n4:nmR (15::130::(leB i 4++rest)) 2 4=i%4294967296:=L7 (i:=i) (r:=rest) rfl (by simp[A8]<;>omega);refine⟨?_,?_,?_,?_⟩
   all_goals exact j6
  ·have e:B5 ⟨32,0,3,32,i⟩=15::131::leB i 4:=rfl;rw[e];clear e;simp only[List.cons_append,List.nil_append];have n0:=B3 (c:=15::131::(leB i 4++rest)) (n:=0) (show _=some _ from rfl);have n1:=B3 (c:=15::131::(leB i 4++rest)) (n:=1) (show _=some _ from rfl);have n4:nmR (15::131::(leB i 4++rest)) 2 4=i%4294967296:=L7 (i:=i) (r:=rest) rfl (by simp[A8]<;>omega);refine⟨?_,?_,?_,?_⟩
   all_goals exact j6
  ·have e:B5 ⟨32,0,4,32,i⟩=15::132::leB i 4:=rfl;rw[e];clear e;simp only[List.cons_append,List.nil_append];have n0:=B3 (c:=15::132::(leB i 4++rest)) (n:=0) (show _=some _ from rfl);have n1:=B3 (c:=15::132::(leB i 4++rest)) (n:=1) (show _=some _ from rfl);have n4:nmR (15::132::(leB i 4++rest)) 2 4=i%4294967296:=L7 (i:=i) (r:=rest) rfl (by simp[A8]<;>omega);refine⟨?_,?_,?_,?_⟩
   all_goals exact j6
  ·have e:B5 ⟨32,0,5,32,i⟩=15::133::leB i 4:=rfl;rw[e];clear e;simp only[List.cons_append,List.nil_append];have n0:=B3 (c:=15::133::(leB i 4++rest)) (n:=0) (show _=some _ from rfl);have n1:=B3 (c:=15::133::(leB i 4++rest)) (n:=1) (show _=some _ from rfl);have n4:nmR (15::133::(leB i 4++rest)) 2 4=i%4294967296:=L7 (i:=i) (r:=rest) rfl (by simp[A8]<;>omega);refine⟨?_,?_,?_,?_⟩
   all_goals exact j6
  ·have e:B5 ⟨32,0,6,32,i⟩=15::134::leB i 4:=rfl;rw[e];clear e;simp only[List.cons_append,List.nil_append];have n0:=B3 (c:=15::134::(leB i 4++rest)) (n:=0) (show _=some _ from rfl);have n1:=B3 (c:=15::134::(leB i 4++rest)) (n:=1) (show _=some _ from rfl);have n4:nmR (15::134::(leB i 4++rest)) 2 4=i%4294967296:=L7 (i:=i) (r:=rest) rfl (by simp[A8]<;>omega);refine⟨?_,?_,?_,?_⟩
   all_goals exact j6
  ·have e:B5 ⟨32,0,7,32,i⟩=15::135::leB i 4:=rfl;rw[e];clear e;simp only[List.cons_append,List.nil_append];have n0:=B3 (c:=15::135::(leB i 4++rest)) (n:=0) (show _=some _ from rfl);have n1:=B3 (c:=15::135::(leB i 4++rest)) (n:=1) (show _=some _ from rfl);have n4:nmR (15::135::(leB i 4++rest)) 2 4=i%4294967296:=L7 (i:=i) (r:=rest) rfl (by simp[A8]<;>omega);refine⟨?_,?_,?_,?_⟩
   all_goals exact j6
  ·have e:B5 ⟨32,0,8,32,i⟩=15::136::leB i 4:=rfl;rw[e];clear e;simp only[List.cons_append,List.nil_append];have n0:=B3 (c:=15::136::(leB i 4++rest)) (n:=0) (show _=some _ from rfl);have n1:=B3 (c:=15::136::(leB i 4++rest)) (n:=1) (show _=some _ from rfl);have n4:nmR (15::136::(leB i 4++rest)) 2 4=i%4294967296:=L7 (i:=i) (r:=rest) rfl (by simp[A8]<;>omega);refine⟨?_,?_,?_,?_⟩
   all_goals exact j6
  ·have e:B5 ⟨32,0,9,32,i⟩=15::137::leB i 4:=rfl;rw[e];clear e;simp only[List.cons_append,List.nil_append];have n0:=B3 (c:=15::137::(leB i 4++rest)) (n:=0) (show _=some _ from rfl);have n1:=B3 (c:=15::137::(leB i 4++rest)) (n:=1) (show _=some _ from rfl);have n4:nmR (15::137::(leB i 4++rest)) 2 4=i%4294967296:=L7 (i:=i) (r:=rest) rfl (by simp[A8]<;>omega);refine⟨?_,?_,?_,?_⟩
   all_goals exact j6
  ·have e:B5 ⟨32,0,12,32,i⟩=15::140::leB i 4:=rfl;rw[e];clear e;simp only[List.cons_append,List.nil_append];have n0:=B3 (c:=15::140::(leB i 4++rest)) (n:=0) (show _=some _ from rfl);have n1:=B3 (c:=15::140::(leB i 4++rest)) (n:=1) (show _=some _ from rfl);have n4:nmR (15::140::(leB i 4++rest)) 2 4=i%4294967296:=L7 (i:=i) (r:=rest) rfl (by simp[A8]<;>omega);refine⟨?_,?_,?_,?_⟩
   all_goals exact j6
  ·have e:B5 ⟨32,0,13,32,i⟩=15::141::leB i 4:=rfl;rw[e];clear e;simp only[List.cons_append,List.nil_append];have n0:=B3 (c:=15::141::(leB i 4++rest)) (n:=0) (show _=some _ from rfl);have n1:=B3 (c:=15::141::(leB i 4++rest)) (n:=1) (show _=some _ from rfl);have n4:nmR (15::141::(leB i 4++rest)) 2 4=i%4294967296:=L7 (i:=i) (r:=rest) rfl (by simp[A8]<;>omega);refine⟨?_,?_,?_,?_⟩
   all_goals exact j6
  ·have e:B5 ⟨32,0,14,32,i⟩=15::142::leB i 4:=rfl;rw[e];clear e;simp only[List.cons_append,List.nil_append];have n0:=B3 (c:=15::142::(leB i 4++rest)) (n:=0) (show _=some _ from rfl);have n1:=B3 (c:=15::142::(leB i 4++rest)) (n:=1) (show _=some _ from rfl);have n4:nmR (15::142::(leB i 4++rest)) 2 4=i%4294967296:=L7 (i:=i) (r:=rest) rfl (by simp[A8]<;>omega);refine⟨?_,?_,?_,?_⟩
   all_goals exact j6
  ·have e:B5 ⟨32,0,15,32,i⟩=15::143::leB i 4:=rfl;rw[e];clear e;simp only[List.cons_append,List.nil_append];have n0:=B3 (c:=15::143::(leB i 4++rest)) (n:=0) (show _=some _ from rfl);have n1:=B3 (c:=15::143::(leB i 4++rest)) (n:=1) (show _=some _ from rfl);have n4:nmR (15::143::(leB i 4++rest)) 2 4=i%4294967296:=L7 (i:=i) (r:=rest) rfl (by simp[A8]<;>omega);refine⟨?_,?_,?_,?_⟩
   all_goals exact j6
theorem B4w(d s z i:Int)(rest:List Int)(h:okI ⟨33,d,s,z,i⟩=true):I1 ⟨33,d,s,z,i⟩ rest:=by
 have hz:=F6 h;have hf:=D4 h;clear h;simp[szI]at hz;unfold I1;rcases hz with rfl|rfl
 ·simp[G7,J0,isR,isM,isL,isC,isB,I5,inZ,pwZ]at hf;have b1:d=0∧-128≤i∧i≤127∧(s=0):=by omega
  obtain⟨rfl,i1,i2,hc⟩:=b1;have sb:=B3G i1 i2;have hi:0≤i%256∧i%256<256:=by omega
  clear hf;subst hc
  ·have e:B5 ⟨33,0,0,8,i⟩=[235,i%256]:=rfl;rw[e];generalize i%256=j at*
   clear e;simp only[List.cons_append,List.nil_append];have n0:=B3 (c:=235::j::rest) (n:=0) (show _=some _ from rfl);have n1:=B3 (c:=235::j::rest) (n:=1) (show _=some _ from rfl);refine⟨?_,?_,?_,?_⟩
   all_goals exact b6
 ·simp[G7,J0,isR,isM,isL,isC,isB,I5,inZ,pwZ]at hf;have b1:d=0∧-2147483648≤i∧i≤2147483647∧(s=0):=by omega
  obtain⟨rfl,i1,i2,hc⟩:=b1;have d4:=rd4 i rest;have w4:=A3A i1 i2;have lb:=M4 i 4;have ll:=A8 i 4;clear hf;subst hc
  ·have e:B5 ⟨33,0,0,32,i⟩=233::leB i 4:=rfl;rw[e];clear e;simp only[List.cons_append,List.nil_append];have n0:=B3 (c:=233::(leB i 4++rest)) (n:=0) (show _=some _ from rfl);have n4:nmR (233::(leB i 4++rest)) 1 4=i%4294967296:=L7 (i:=i) (r:=rest) rfl (by simp[A8]<;>omega);refine⟨?_,?_,?_,?_⟩
   all_goals first|(simp[gsP,N3,S5,Z5,J1,D1,d4,w4,ll];done)|(simp only[gsR,U7,T6,D1,n0];simp[n4,w4];done)|(simp;done)|(intro b hb;simp only[List.mem_cons]at hb;rcases hb with rfl|hb;omega;first|exact lb b hb|(rcases hb with rfl|hb;omega;exact lb b hb))
theorem B4v(d s z i:Int)(rest:List Int)(h:okI ⟨34,d,s,z,i⟩=true):I1 ⟨34,d,s,z,i⟩ rest:=by
 have hz:=F6 h;have hf:=D4 h;clear h;simp[szI]at hz;unfold I1;subst hz;simp[G7,J0,isR,isM,isL,isC,isB,I5,inZ,pwZ]at hf;obtain⟨rfl,rfl,rfl⟩:d=0∧s=0∧i=0:=by omega
 have e:B5 ⟨34,0,0,32,0⟩=[244]:=rfl;rw[e];clear e hf;simp only[List.cons_append,List.nil_append];have n0:=B3 (c:=244::rest) (n:=0) (show _=some _ from rfl);refine⟨?_,?_,?_,?_⟩
 all_goals exact B1B
theorem B4u(d s z i:Int)(rest:List Int)(h:okI ⟨35,d,s,z,i⟩=true):I1 ⟨35,d,s,z,i⟩ rest:=by
 have hz:=F6 h;have hf:=D4 h;clear h;simp[szI]at hz;unfold I1;subst hz;simp[G7,J0,isR,isM,isL,isC,isB,I5,inZ,pwZ]at hf;obtain⟨rfl,rfl,rfl⟩:d=0∧s=0∧i=0:=by omega
 have e:B5 ⟨35,0,0,32,0⟩=[15,11]:=rfl;rw[e];clear e hf;simp only[List.cons_append,List.nil_append];have n0:=B3 (c:=15::11::rest) (n:=0) (show _=some _ from rfl);have n1:=B3 (c:=15::11::rest) (n:=1) (show _=some _ from rfl);refine⟨?_,?_,?_,?_⟩
 all_goals first|(simp[gsP,N3,S5,Z5,J1,D1];done)|(simp only[gsR,U7,T6,D1,n0,n1];simp;done)|(simp only[gsR,U7,T6,D1,n0,n1];simp;omega)|(simp;done)|(simp;omega)|(intro b hb;simp at hb;omega)
theorem B4t(d s z i:Int)(rest:List Int)(h:okI ⟨36,d,s,z,i⟩=true):I1 ⟨36,d,s,z,i⟩ rest:=by
 have hz:=F6 h;have hf:=D4 h;clear h;simp[szI]at hz;unfold I1;subst hz;simp[G7,J0,isR,isM,isL,isC,isB,I5,inZ,pwZ]at hf;obtain⟨rfl,rfl,rfl⟩:d=0∧s=0∧i=0:=by omega
 have e:B5 ⟨36,0,0,32,0⟩=[144]:=rfl;rw[e];clear e hf;simp only[List.cons_append,List.nil_append];have n0:=B3 (c:=144::rest) (n:=0) (show _=some _ from rfl);refine⟨?_,?_,?_,?_⟩
 all_goals exact B1B
theorem A3P{x:Ins}(h:okI x=true)(rest:List Int):I1 x rest:=by
 have ho:=A1t h;obtain⟨p,d,s,z,i⟩:=x;simp only at ho;rcases(show p=0∨p=1∨p=2∨p=3∨p=4∨p=5∨p=6∨p=7∨p=8∨p=9∨p=10∨p=11∨p=12∨p=13∨p=14∨p=15∨p=16∨p=17∨p=18∨p=19∨p=20∨p=21∨p=22∨p=23∨p=24∨p=25∨p=26∨p=27∨p=28∨p=29∨p=30∨p=31∨p=32∨p=33∨p=34∨p=35∨p=36 by omega)with rfl|rfl|rfl|rfl|rfl|rfl|rfl|rfl|rfl|rfl|rfl|rfl|rfl|rfl|rfl|rfl|rfl|rfl|rfl|rfl|rfl|rfl|rfl|rfl|rfl|rfl|rfl|rfl|rfl|rfl|rfl|rfl|rfl|rfl|rfl|rfl|rfl
 ·exact B6J d s z i rest h
 ·exact B6I d s z i rest h
 ·exact B6H d s z i rest h
 ·exact B6G d s z i rest h
 ·exact B6F d s z i rest h
 ·exact B6E d s z i rest h
 ·exact B6D d s z i rest h
 ·exact B6C d s z i rest h
 ·exact B6B d s z i rest h
 ·exact B6A d s z i rest h
 ·exact B5N d s z i rest h
 ·exact B5M d s z i rest h
 ·exact B5L d s z i rest h
 ·exact B5K d s z i rest h
 ·exact p9 _ 0 d s z i rest (by decide) h
 ·exact p9 _ 1 d s z i rest (by decide) h
 ·exact p9 _ 4 d s z i rest (by decide) h
 ·exact p9 _ 5 d s z i rest (by decide) h
 ·exact p9 _ 6 d s z i rest (by decide) h
 ·exact p9 _ 7 d s z i rest (by decide) h
 ·exact B5J d s z i rest h
 ·exact B5I d s z i rest h
 ·exact B5H d s z i rest h
 ·exact B5G d s z i rest h
 ·exact B5F d s z i rest h
 ·exact B5E d s z i rest h
 ·exact B5D d s z i rest h
 ·exact B5C d s z i rest h
 ·exact B5B d s z i rest h
 ·exact B5A d s z i rest h
 ·exact B4z d s z i rest h
 ·exact B4y d s z i rest h
 ·exact B4x d s z i rest h
 ·exact B4w d s z i rest h
 ·exact B4v d s z i rest h
 ·exact B4u d s z i rest h
 ·exact B4t d s z i rest h
end Go.Proofs.YtajljbmeaeeknaaGreat
