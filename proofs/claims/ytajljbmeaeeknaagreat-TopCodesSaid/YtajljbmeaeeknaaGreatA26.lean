/- -/
import Derived.Maps.AppendAt
import Derived.Test.YtajljbmeaeeknaaGreatA2
import Derived.Test.YtajljbmeaeeknaaGreatA21
open Go.Proofs.Tryz
open Go.Lib (hid)
set_option maxHeartbeats 1000000
set_option maxRecDepth 100000
namespace Go.Proofs.YtajljbmeaeeknaaGreat
open Go.RowKit Go.Maps
set_option linter.unusedVariables false
set_option linter.unusedSimpArgs false
theorem n8{xs:List Ins}{j:Nat}(h:j<xs.length):xs.take (j+1)=xs.take j++[xs.getD j default]:=by
 rw[List.take_add_one,List.getElem?_eq_getElem h,List.getD_eq_getElem?_getD,List.getElem?_eq_getElem h];rfl
theorem A5q{xs:List Ins}(h:m6 xs)(j:Nat):m6 (xs.take j):=fun x hx=>h x (List.mem_of_mem_take hx)
theorem A0D{xs:List Ins}{j:Nat}(h:j<xs.length):xs.getD j default∈xs:=by
 rw[List.getD_eq_getElem?_getD,List.getElem?_eq_getElem h];exact List.getElem_mem h
theorem A7f(xs:List Ins)(v:Value)(w:World)(hv:Ias w v xs)(hno:¬m6 xs):Calls prog 27 #[v] w fun e w'=>e= .returned (.tuple #[.slice none 0 0,.int .i64 1])∧Below w.heap.size w w':=by
 have HV:=hid hv;have HNO:=hid hno;obtain⟨va,vc,rfl,hl1,hl2⟩:=hv.shape;clear hv hno;go_enter func27,ntmps27;go_wp2_with fail
 go_loopw[12] (fun i wr=>∃j:Nat,j≤xs.length∧i= .int .i64 j∧Hid (∀k,k<j→okI (xs.getD k default)=true)∧Since w wr) (fun i _=>xs.length-(intOf i).toNat)
 case atStart=>exact⟨0,Nat.zero_le _,rfl,hid (fun k h=>absurd h (Nat.not_lt_zero _)),Since.refl _⟩
 case round=>
  obtain⟨j,hj,rfl,hok,hs⟩:=hrel;by_cases hlt:j<xs.length
  ·obtain⟨b,q,c,e',hc,hb,x0,x1,x2,x3,x4⟩:=(HV.out.stays hs).at hlt;cases e';have CV:=hid (fun wk=>O2 (xs.getD j default) wk);have HJ:Hid (∀o,okI (xs.getD j default)=o→okI (xs.getD j default)=o):=fun _ h=>h
   have hva:vaI (xs.getD j default)=if okI (xs.getD j default)=true then 0 else 1:=rfl
   have HS:=hid hs;obtain⟨x,hx⟩:∃x,xs.getD j default=x:=⟨_,rfl⟩
   rw[hx]at x0 x1 x2 x3 x4 CV hva;obtain⟨o,d,s,z,i⟩:=x;have CV2:Hid (∀wk,Calls prog 64 #[.agg #[.int .i64 o,.int .i64 d,.int .i64 s,.int .i64 z,.int .i64 i]] wk fun e w'=>e= .returned (.int .i64 (vaI ⟨o,d,s,z,i⟩))∧Below wk.heap.size wk w'):=CV;have HX:=hid hx;clear hx CV HJ hs;have hlt':(j:Int)<xs.length:=Int.ofNat_lt.2 hlt;cases ho:okI ⟨o,d,s,z,i⟩
   ·rw[show vaI ⟨o,d,s,z,i⟩=1 by rw[hva,ho];rfl]at CV2;clear hva ho;go_wp2_with((with_reducible refine(CV2.out _).mono ?_);rintro e w1 ⟨rfl,hb1⟩)
    go_ret2
    exact⟨rfl,A7 HS.out (A7 ((Below.refl _ _).alloc (Nat.le_refl _) _) hb1)⟩
   ·rw[show vaI ⟨o,d,s,z,i⟩=0 by rw[hva,ho];rfl]at CV2;have HO:Hid (∀k,k<j+1→okI (xs.getD k default)=true):=fun k hk=>by
     by_cases e:k=j
     ·rw[e,HX.out];exact ho
     ·exact hok.out k (by omega)
    clear hva ho;go_wp2_with((with_reducible refine(CV2.out _).mono ?_);rintro e w1 ⟨rfl,hb1⟩)
    go_roundw
    case rel=>exact⟨j+1,by omega,by go_num,HO,A7 HS.out (A7 ((Below.refl _ _).alloc (Nat.le_refl _) _) hb1)⟩
    case measure=>simp[intOf];omega
  ·obtain rfl:j=xs.length:=by omega
   refine absurd (fun x hx=>?_) HNO.out;obtain⟨k,hk,rfl⟩:=List.mem_iff_getElem.1 hx;have:=hok.out k hk;rw[List.getD_eq_getElem?_getD,List.getElem?_eq_getElem hk]at this;exact this
theorem A0f(xs:List Ins)(v:Value)(w:World)(hv:Ias w v xs)(hyes:m6 xs)(hlen:xs.length≤10000):Calls prog 27 #[v] w fun e w'=>∃u,e= .returned (.tuple #[u,.int .i64 0])∧RowI w' w.heap.size 5 .u8 u (K6 xs)∧Below w.heap.size w w':=by
 have HV:=hid hv;have HY:=hid hyes;obtain⟨va,vc,rfl,hl1,hl2⟩:=hv.shape;clear hv hyes;go_enter func27,ntmps27;go_wp2_with fail
 go_loopw[12] (fun i wr=>∃j:Nat,j≤xs.length∧i= .int .i64 j∧Since w wr) (fun i _=>xs.length-(intOf i).toNat)
 case atStart=>exact⟨0,Nat.zero_le _,rfl,Since.refl _⟩
 case round=>
  obtain⟨j,hj,rfl,hs⟩:=hrel;by_cases hlt:j<xs.length
  ·obtain⟨b,q,c,e',hc,hb,x0,x1,x2,x3,x4⟩:=(HV.out.stays hs).at hlt;cases e';have hok:=HY.out _ (A0D hlt);have CV:=hid (fun wk=>O2 (xs.getD j default) wk);rw[show vaI (xs.getD j default)=0 by unfold vaI;rw[hok];rfl]at CV;have HS:=hid hs;clear hok hs;generalize xs.getD j default=x at*
   obtain⟨o,d,s,z,i⟩:=x;have CV2:Hid (∀wk,Calls prog 64 #[.agg #[.int .i64 o,.int .i64 d,.int .i64 s,.int .i64 z,.int .i64 i]] wk fun e w'=>e= .returned (.int .i64 0)∧Below wk.heap.size wk w'):=CV;clear CV;have hlt':(j:Int)<xs.length:=Int.ofNat_lt.2 hlt;go_wp2_with((with_reducible refine(CV2.out _).mono ?_);rintro e w1 ⟨rfl,hb1⟩)
   go_roundw
   case rel=>exact⟨j+1,by omega,by go_num,A7 HS.out (A7 ((Below.refl _ _).alloc (Nat.le_refl _) _) hb1)⟩
   case measure=>simp[intOf];omega
  ·obtain rfl:j=xs.length:=by omega
   obtain⟨wo,rfl⟩:∃wo:World,wo=wr:=⟨_,rfl⟩
   have HS:=hid hs;clear hs;go_wp2_with fail
   go_loopw[4,24] (fun u i wr=>∃j:Nat,j≤xs.length∧i= .int .i64 j∧RowI wr w.heap.size 5 .u8 u (K6 (xs.take j))∧Since w wr) (fun _ i _=>xs.length-(intOf i).toNat)
   case atStart=>exact⟨0,Nat.zero_le _,rfl,RowI.nil _ _ _ _,HS.out⟩
   case round=>
    obtain⟨j,hj,rfl,hrow,hs⟩:=hrel;by_cases hlt:j<xs.length
    ·obtain⟨b,q,c,e',hc,hb,x0,x1,x2,x3,x4⟩:=(HV.out.stays hs).at hlt;cases e';have hok:=HY.out _ (A0D hlt);have CB:=hid (fun wk=>r9 (xs.getD j default) wk hok);have HEQ:Hid (K6 (xs.take j)++K4 (xs.getD j default)=K6 (xs.take (j+1))):=by show _=_;rw[n8 hlt,s4]
     have hen:=l8 hok;have hbl:=A2h (A5q HY.out j);have htl:(xs.take j).length≤10000:=by rw[List.length_take];omega
     have HLEN:Hid ((K6 (xs.take j)).length+(K4 (xs.getD j default)).length≤100000):=hid (by omega);have HPOS:Hid (0<(K4 (xs.getD j default)).length):=hid hen.1;have HY5:Hid ((K4 (xs.getD j default)).length≤140737488351232):=hid (by omega);obtain⟨ua,uc,rfl⟩:=hrow.shape;have HROW:=hid hrow;have HSZ:Hid (w.heap.size≤wr.heap.size):=hid hs.size;have HS:=hid hs;clear hok hen hbl htl hrow hs;generalize xs.getD j default=x at*
     generalize K6 (xs.take j)=bs at*
     obtain⟨o,d,s,z,i⟩:=x;have CB2:Hid (∀wk,Calls prog 65 #[.agg #[.int .i64 o,.int .i64 d,.int .i64 s,.int .i64 z,.int .i64 i]] wk fun e w'=>∃v,e= .returned v∧RowI w' wk.heap.size 5 .u8 v (K4 ⟨o,d,s,z,i⟩)∧Below wk.heap.size wk w'):=CB;clear CB;generalize K4 ⟨o,d,s,z,i⟩=en at*
     have hlt':(j:Int)<xs.length:=Int.ofNat_lt.2 hlt;go_wp2_with(first|((with_reducible refine(CB2.out _).mono ?_);rintro e w1 ⟨v1,rfl,hr1,hb1⟩;obtain⟨a1,c1,rfl⟩:=hr1.shape;have HR1:=hid hr1;have HB1:=hid (A7 ((Below.refl wr.heap.size wr).alloc (Nat.le_refl _) _) hb1);clear hr1 hb1)|(at_builtin;refine R9 rfl _ _ rfl w.heap.size _ bs rfl (HROW.out.below HB1.out) _ en rfl (HR1.out.ints HY5.out) HPOS.out HLEN.out (Nat.le_trans HSZ.out HB1.out.size) ?_;intro v9 w9 hr9 hb9;have HR9:=hid hr9;have HB9:=hid hb9;clear hr9 hb9))
     go_roundw
     case rel=>exact⟨j+1,by omega,by go_num,RowI.to HR9.out HEQ.out,E2 (A7 HS.out HB1.out) HB9.out⟩
     case measure=>simp[intOf];omega
    ·obtain rfl:j=xs.length:=by omega
     have HROW:Hid (RowI wr w.heap.size 5 .u8 _ (K6 xs)):=hid (by rw[List.take_length]at hrow;exact hrow);have HS:=hid hs;clear hrow hs;go_wp2_with fail
     go_ret2
     exact⟨_,rfl,HROW.out,HS.out⟩
theorem Ints.drop{k:IntKind}{w:World}{a:Option Addr}{c m:Nat}{xs:List Int}(h:Ints k w (.slice a xs.length c) xs)(hm:m≤xs.length):Ints k w (.slice (if c=m then a else a.map (fun x=>x.add m)) (xs.length-m) (c-m)) (xs.drop m):=by
 obtain⟨a',c',e,h1,h2,h3,h4⟩:=h;cases e;have hl:(xs.drop m).length=xs.length-m:=List.length_drop;refine⟨_,c-m,by rw[hl],by omega,by omega,fun e=>?_,fun i hi=>?_⟩
 ·by_cases hc:c=m
  ·omega
  ·rw[if_neg hc]at e;rcases a with _|a
   ·have:=h3 rfl;omega
   ·cases e
 ·rw[hl]at hi;obtain⟨b,o,e',h5,h6⟩:=h4 (m+i) (by omega);subst e';have hc:c≠m:=by omega
  refine⟨b,o+m,by rw[if_neg hc];simp[Addr.add],h5,?_⟩;show w.cell? _=_
  have h6':w.cell? ⟨b,o+(m+i)*1,none⟩=some (.int k (xs.getD (m+i) 0)):=h6;rw[show o+m+i*1=o+(m+i)*1 by omega,h6'];simp[List.getD_eq_getElem?_getD,List.getElem?_drop]
theorem B3f{p:Prop}(h:p:=by
 go_wp2_with((with_reducible refine(CD0.out).mono ?_);rintro e w1 ⟨rfl,hb1⟩)
 go_ret2
 have hbx:=A7 hb1 ((Below.refl w1.heap.size w1).alloc (Nat.le_refl _) (.cells #[.int .i64 0,.int .i64 0,.int .i64 0,.int .i64 0,.int .i64 0] 89));exact⟨_,B0x (by rw[HE.out]),by rw[HE.out];exact HROW.out.below hbx,A7 HS.out hbx⟩
 ):p:=h
theorem A8q:(prog.info? 89).map (fun i=>(i.zero,i.size,i.bytes))=some (some (.agg #[.int .i64 0,.int .i64 0,.int .i64 0,.int .i64 0,.int .i64 0]),5,40):=by kernel_rfl
theorem RowA.app{w':World}{base:Nat}{v':Value}{xs:List Ins}{x:Ins}(h:w'.ownsRow base 89 5 v' (xs.length+1) (A0O xs++iaC x)):RowA w' base v' (xs++[x]):=by
 unfold RowA;rw[A4p,List.length_append];exact h
theorem B0x{u:Value}{a b:Int}(h:a=b):Ending.returned (.tuple #[u,.int .i64 a])= .returned (.tuple #[u,.int .i64 b]):=by rw[h]
theorem A2A(l:List Int)(v:Value)(w:World)(hv:Ints .u8 w v l)(hby:Byt l)(hlen:l.length≤50000):Calls prog 28 #[v] w fun e w'=>∃u,e= .returned (.tuple #[u,.int .i64 (O7 (l.length+1) l).2])∧RowA w' w.heap.size u (O7 (l.length+1) l).1∧Below w.heap.size w w':=by
 obtain⟨n0,hn0,hy0,hy1,hy2⟩:=info_parts A8q;have HV:=hid hv;have HBY:=hid hby;obtain⟨va,vc,rfl,hl1,hl2⟩:=hv.shape;obtain⟨K,hK⟩:∃K,l.length+1=K:=⟨_,rfl⟩
 rw[hK];have HK:=hid hK;clear hv hby hK;go_enter func28,ntmps28;go_wp2_with fail
 go_loopw[4,5] (fun u i wr=>∃(at':Nat) (done:List Ins),at'≤l.length∧i= .int .i64 at'∧RowA wr w.heap.size u done∧Hid (O7 K l=(done++(O7 K (l.drop at')).1,at'+(O7 K (l.drop at')).2))∧done.length≤at'∧Since w wr) (fun _ i _=>l.length+1-(intOf i).toNat)
 case atStart=>exact⟨0,[],Nat.zero_le _,rfl,RowA.nil _ _,hid (by simp),Nat.le_refl _,Since.refl _⟩
 case round=>
  obtain⟨at',done,hat,rfl,hrow,hlst,hdl,hs⟩:=hrel;obtain⟨ua,uc,rfl⟩:=hrow.shape;have hI:=(HV.out.stays hs).drop hat;have hB:Byt (l.drop at'):=fun k=>by rw[k7];exact HBY.out _
  have CD:=hid (A0G (l.drop at') _ wr hI hB);have HROW:=hid hrow;have HS:=hid hs;have hac:at'≤vc:=by omega
  clear hrow hs hB hI;rcases hd:S8 (l.drop at')with _|⟨x,n⟩
  ·rw[(T5 hd).1,(T5 hd).2.1,(T5 hd).2.2]at CD;have HE:Hid (O7 K l=(done,at')):=hid (by rw[hlst.out,T4 hd,List.append_nil,Nat.add_zero]);clear hd;by_cases hva:vc=at'
   ·rw[if_pos hva,show vc-at'=0 by omega]at CD;have CD0:Hid (Calls prog 66 #[.slice va (l.length-at') 0] wr fun e w'=>e= .returned (.tuple #[.agg #[.int .i64 0,.int .i64 0,.int .i64 0,.int .i64 0,.int .i64 0],.int .i64 0,.bool false])∧Below wr.heap.size wr w'):=CD;clear CD;exact B3f
   ·rw[if_neg hva]at CD;have CD0:Hid (Calls prog 66 #[.slice (va.map (fun x=>x.add at')) (l.length-at') (vc-at')] wr fun e w'=>e= .returned (.tuple #[.agg #[.int .i64 0,.int .i64 0,.int .i64 0,.int .i64 0,.int .i64 0],.int .i64 0,.bool false])∧Below wr.heap.size wr w'):=CD;clear CD;exact B3f
  ·have hp:=A1P hd;rw[(m4 hd).1,(m4 hd).2.1,(m4 hd).2.2]at CD;rw[List.length_drop]at hp;obtain⟨hok,hn1,hn2,hn3,_⟩:=hp;have HE:Hid (O7 K l=((done++[x])++(O7 K (l.drop (at'+n))).1,at'+n+(O7 K (l.drop (at'+n))).2)):=by
    show _=_
    rw[hlst.out];obtain⟨K',hK'⟩:∃K',K=K'+1:=⟨l.length,HK.out.symm⟩
    have hm:=A0Z K' (l.drop (at'+n)) (by rw[List.length_drop];have:=HK.out;omega);rw[hK']at*
    rw[T3 hd,List.drop_drop,hm];simp[Nat.add_assoc]
   clear hd hlst hok;obtain⟨o,d,s,z,i⟩:=x;have hne:¬vc=at':=by omega
   rw[if_neg hne]at CD;have CD1:Hid (Calls prog 66 #[.slice (va.map (fun x=>x.add at')) (l.length-at') (vc-at')] wr fun e w'=>e= .returned (.tuple #[.agg #[.int .i64 o,.int .i64 d,.int .i64 s,.int .i64 z,.int .i64 i],.int .i64 n,.bool true])∧Below wr.heap.size wr w'):=CD;clear CD;have hw:wrap64 ((at':Int)+n)=((at'+n:Nat):Int):=IntWalk.wrap64_in _ (by omega);go_wp2_with(first|((with_reducible refine(CD1.out).mono ?_);rintro e w1 ⟨rfl,hb1⟩;have HB1:=hid hb1;have hsz1:=hb1.size;have hwsz:=HS.out.size;clear hb1)|(at_builtin;refine wpList_append_own _ rfl _ _ 67 rfl w.heap.size 89 n0 _ 5 40 underlying67 hn0 hy0 hy1 hy2 rfl (by decide) _ _ _ rfl (((HROW.out.below HB1.out).below ((Below.refl _ _).alloc (Nat.le_refl _) _)).below ((Below.refl _ _).alloc (Nat.le_refl _) _)) ⟨_,0,none⟩ 1 1 [.int .i64 o,.int .i64 d,.int .i64 s,.int .i64 z,.int .i64 i] rfl rfl ?c1 ?c2 ?c3 ?c4 ?c5 ?_))
   case c1=>
    intro i u h;rcases i with _|_|_|_|_|i<;>first|(cases h;simp[go_sem,Addr.add])|cases h
   case c2=>simp[Value.oneCell']
   case c3=>unfold maxLen;omega
   case c4=>omega
   case c5=>simp;omega
   intro v' w2 hown' hgrow _;have HOW:=hid hown';have HGR:=hid hgrow;clear hown' hgrow;go_wp2_with fail
   go_roundw
   case rel=>
    have hs2:Since w ((w1.alloc (.cells #[.int .i64 o,.int .i64 d,.int .i64 s,.int .i64 z,.int .i64 i] 89)).alloc (.cells #[.int .i64 o,.int .i64 d,.int .i64 s,.int .i64 z,.int .i64 i] 89)):=A7 (A7 (A7 HS.out HB1.out) ((Below.refl _ _).alloc (Nat.le_refl _) _)) ((Below.refl _ _).alloc (Nat.le_refl _) _);exact⟨at'+n,done++[⟨o,d,s,z,i⟩],by omega,by go_num,RowA.app (x:=⟨o,d,s,z,i⟩) HOW.out,HE,by simp;omega,hs2.grown HGR.out (by simp;omega) (V1 HROW.out)⟩
   case measure=>simp[intOf];omega
end Go.Proofs.YtajljbmeaeeknaaGreat
