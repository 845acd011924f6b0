/- -/
import Derived.Maps.AppendAt
import Derived.Test.YtdojafpjipcbjaaGreatK12
import Derived.Test.YtdojafpjipcbjaaGreatK16
import Derived.Test.YtdojafpjipcbjaaGreatK17
open Go.Proofs.Tryz
open Go.Lib (hid)
set_option maxHeartbeats 1000000
set_option maxRecDepth 100000
namespace Go.Proofs.YtdojafpjipcbjaaGreat
open Go.RowKit Go.Maps
set_option linter.unusedVariables false
set_option linter.unusedSimpArgs false
theorem A7T{p:Prop}(h:p:=by
 refine wpQuiet_nil ?_;intro wq hwq;clear ne p0 b1 b2 b4 rdd rss r00 ff;have hq:=(HR.out _ hwq)
 have hF:=HF.out _ hwq;obtain⟨hq1,hq2⟩:=hq;go_wp2_with fail
 exact bodyPost_end (v:=.tuple #[]) (by simp[results,results44,go_sem]) rfl ⟨rfl,hF.1,hF.2⟩
 ):p:=h
def cdV(a:Int):Int:=if 2147483648≤a then 4294967295 else 0
theorem A5I(a:Int):0≤cdV a∧cdV a<4294967296:=by unfold cdV;split<;>omega
theorem A9i(a:Int)(h0:0≤a)(h1:a<4294967296):bits .and .u32 a 255=a%256:=by
 have:=O9 a.toNat 8 (by omega) (by decide);rw[show((a.toNat:Nat):Int)=a by omega,show((2^8:Nat)-1:Int)=255 by decide]at this;rw[this];omega
theorem B2q(a:Int)(h0:0≤a)(h1:a<4294967296):wrap32 a / 2147483648%4294967296=cdV a:=by
 unfold cdV wrap32
 split<;>omega
theorem A3E(a:Nat)(ha:a<2^32):a&&&(16777215<<<8)=(a>>>8)<<<8:=by
 apply Nat.eq_of_testBit_eq;intro i;rw[Nat.testBit_and,Nat.testBit_shiftLeft,Nat.testBit_shiftLeft,Nat.testBit_shiftRight];by_cases h:i≥8
 ·simp only[h,decide_true,Bool.true_and];rw[show 8+(i-8)=i by omega,show(16777215:Nat)=2^24-1 from rfl,Nat.testBit_two_pow_sub_one];by_cases h2:i-8<24
  ·simp[h2]
  ·have:a.testBit i=false:=Nat.testBit_lt_two_pow (Nat.lt_of_lt_of_le ha (Nat.pow_le_pow_right (by decide) (by omega)));simp[this]
 ·simp[h]
theorem A2p(a:Int)(h0:0≤a)(h1:a<4294967296)(b:Bool):bits .or .u32 (bits .andNot .u32 a 255) (if b=true then 1 else 0)=a / 256*256+(if b=true then 1 else 0):=by
 obtain⟨x,rfl⟩:=Int.eq_ofNat_of_zero_le h0;have hx:x<4294967296:=by omega
 have e1:bits .andNot .u32 (x:Int) 255=(((x>>>8)<<<8:Nat):Int):=by
  have:=u32_andNot_nat x 255 hx (by decide);rw[show(4294967295-255:Nat)=16777215<<<8 from rfl,A3E x hx]at this;exact this
 have hs:(x>>>8)<<<8=x / 256*256:=by rw[Nat.shiftLeft_eq,Nat.shiftRight_eq_div_pow]
 have e2:(if b=true then(1:Int)else 0)=((if b=true then 1 else 0:Nat):Int):=by cases b<;>rfl
 rw[e1,e2,u32_or_nat _ _ (by rw[hs];omega) (by split<;>decide),hs,nat_join 8 (x / 256*256) _ (Nat.mul_mod_left _ _) (by split<;>decide)];omega
section
variable {base T M : Nat} {mv : Value} {x : Ins} {z : Int} {fl fl' : Bool} {c c' : Mac} {B : Nat} {o d s xz xi : Int} {w wk wk' : World}
def XI(base T M:Nat)(mv:Value)(x:Ins)(z:Int)(B:Nat)(o d s xz xi:Int)(w:World)(fl:Bool)(c:Mac):World→Prop:=fun wk=>XC base T M mv x z B o d s xz xi w fl c wk
end
section
variable {base T M : Nat} {mv : Value} {x : Ins} {z : Int} {fl : Bool} {c : Mac}
theorem A6j(d s:Nat)(hd:d<32)(hs:s<32)(w:World)(h:MSt base T M mv x z fl c w)(hxo:x.o=28)(hxd:x.d=(d:Int))(hxs:x.s=(s:Int)):Calls prog 44 #[.pointer (some ⟨T,0,none⟩)] w fun e w'=>e= .returned (.tuple #[])∧MSt base T M mv x z fl {c with r:=c.r.set 2 (cdV (c.r.getD 0 0))} w'∧Ch T M mv w w':=by
 have x1:=h.xo;have x2:=h.xd;have x3:=h.xs;have x4:=h.xz;have x5:=h.xi;rw[hxo]at x1;rw[hxd]at x2;rw[hxs]at x3;have hT:=h.ltT;have hne:T≠w.heap.size:=by omega
 have hpw:=D6 h.zz;have b0:=h.rb 0;have bd:=h.rb d;have bs:=h.rb s;have hd1:(d:Int)<32:=by omega
 have hs1:(s:Int)<32:=by omega
 have fb:=h.fb;have Hrd:Hid (∀wk,XI base T M mv x z w.heap.size 28 (d:Int) (s:Int) x.z x.i w fl c wk→wk.cell? ⟨M,d,none⟩=some (.int .u32 (c.r.getD d 0))):=hid (fun wk hk=>((XC.m hk).reg hd).1);have Hrs:Hid (∀wk,XI base T M mv x z w.heap.size 28 (d:Int) (s:Int) x.z x.i w fl c wk→wk.cell? ⟨M,s,none⟩=some (.int .u32 (c.r.getD s 0))):=hid (fun wk hk=>((XC.m hk).reg hs).1);have Hr0:Hid (∀wk,XI base T M mv x z w.heap.size 28 (d:Int) (s:Int) x.z x.i w fl c wk→wk.cell? ⟨M,0,none⟩=some (.int .u32 (c.r.getD 0 0))):=hid (fun wk hk=>((XC.m hk).reg (d:=0) (by decide)).1);have Hff:Hid (∀wk,XI base T M mv x z w.heap.size 28 (d:Int) (s:Int) x.z x.i w fl c wk→wk.cell? ⟨M,32,none⟩=some (.int .i64 c.f)):=hid (fun wk hk=>(XC.m hk).flg.1);have HB:Hid (∀wk wk',XI base T M mv x z w.heap.size 28 (d:Int) (s:Int) x.z x.i w fl c wk→Below wk.heap.size wk wk'→XI base T M mv x z w.heap.size 28 (d:Int) (s:Int) x.z x.i w fl c wk'):=hid (fun wk wk' hk hb=>XC.next hk ((XC.m hk).same hb) (Ch.of_below hb));have HR:Hid (∀wk,XI base T M mv x z w.heap.size 28 (d:Int) (s:Int) x.z x.i w fl c wk→wk.cell? ⟨M,2,none⟩=some (.int .u32 (c.r.getD 2 0))∧wk.frozen? ⟨M,2,none⟩=false):=hid (fun wk hk=>(XC.m hk).reg (d:=2) (by decide));have HF:Hid (∀wk,XI base T M mv x z w.heap.size 28 (d:Int) (s:Int) x.z x.i w fl c wk→MSt base T M mv x z fl {c with r:=c.r.set 2 (cdV (c.r.getD 0 0))} (wk.setCell ⟨M,2,none⟩ (.int .u32 (cdV (c.r.getD 0 0))))∧Ch T M mv w (wk.setCell ⟨M,2,none⟩ (.int .u32 (cdV (c.r.getD 0 0))))):=hid (fun wk hk=>⟨(XC.m hk).setR (d:=2) (by decide) (A5I _).1 (A5I _).2,(XC.ch hk).setM _ _⟩);have HC:=hid (B2q (c.r.getD 0 0) b0.1 b0.2);generalize c.r.getD 2 0=v2 at*
 generalize x.z=xz at*
 generalize x.i=xi at*
 have hX:=XC.new h 28 (d:Int) (s:Int) xz xi;generalize c.r.getD 0 0=v0 at*
 generalize c.r.getD d 0=vd at*
 generalize c.r.getD s 0=vs at*
 generalize c.f=f at*
 clear h;go_enter func44,ntmps44;go_upto_region 45 with fail
 generalize(w.alloc (.cells #[.int .i64 28,.int .i64 (d:Int),.int .i64 (s:Int),.int .i64 xz,.int .i64 xi] 61))=wa at*
 generalize w.heap.size=B at*
 have ne:Nonempty (In (XI base T M mv x z B 28 (d:Int) (s:Int) xz xi w fl c)):=⟨⟨wa,hX⟩⟩
 have p0:∀s':In (XI base T M mv x z B 28 (d:Int) (s:Int) xz xi w fl c),s'.w.cell? ⟨T,0,none⟩=some (.pointer (some ⟨M,0,none⟩)):=fun s'=>(XC.m s'.h).ptr
 have b1:∀s':In (XI base T M mv x z B 28 (d:Int) (s:Int) xz xi w fl c),s'.w.cell? ⟨B,1,none⟩=some (.int .i64 (d:Int)):=fun s'=>(XC.b s'.h).cells.1.2.1
 have b2:∀s':In (XI base T M mv x z B 28 (d:Int) (s:Int) xz xi w fl c),s'.w.cell? ⟨B,2,none⟩=some (.int .i64 (s:Int)):=fun s'=>(XC.b s'.h).cells.1.2.2.1
 have b4:∀s':In (XI base T M mv x z B 28 (d:Int) (s:Int) xz xi w fl c),s'.w.cell? ⟨B,4,none⟩=some (.int .i64 xi):=fun s'=>(XC.b s'.h).cells.1.2.2.2.2
 have rdd:∀s':In (XI base T M mv x z B 28 (d:Int) (s:Int) xz xi w fl c),s'.w.cell? ⟨M,d,none⟩=some (.int .u32 vd):=fun s'=>Hrd.out _ s'.h
 have rss:∀s':In (XI base T M mv x z B 28 (d:Int) (s:Int) xz xi w fl c),s'.w.cell? ⟨M,s,none⟩=some (.int .u32 vs):=fun s'=>Hrs.out _ s'.h
 have r00:∀s':In (XI base T M mv x z B 28 (d:Int) (s:Int) xz xi w fl c),s'.w.cell? ⟨M,0,none⟩=some (.int .u32 v0):=fun s'=>Hr0.out _ s'.h
 have ff:∀s':In (XI base T M mv x z B 28 (d:Int) (s:Int) xz xi w fl c),s'.w.cell? ⟨M,32,none⟩=some (.int .i64 f):=fun s'=>Hff.out _ s'.h
 refine J0 (XI base T M mv x z B 28 (d:Int) (s:Int) xz xi w fl c) 18 (by kernel_rfl) (by kernel_rfl) (XC.drew hX) ?_;dsimp only[List.take,List.drop]
 repeat(go_big_quiet_step (fail))
 refine wpQuiet_nil ?_;intro wq hwq;clear ne p0 b1 b2 b4 rdd rss r00 ff;have hq:=(HR.out _ hwq)
 have hF:=HF.out _ hwq;obtain⟨hq1,hq2⟩:=hq;go_wp2_with fail
 rw[HC.out];exact bodyPost_end (v:=.tuple #[]) (by simp[results,results44,go_sem]) rfl ⟨rfl,hF.1,hF.2⟩
theorem A6i(d s:Nat)(hd:d<32)(hs:s<32)(w:World)(h:MSt base T M mv x z fl c w)(hxo:x.o=29)(hxd:x.d=(d:Int))(hxs:x.s=(s:Int))(hc:isC (s:Int)=true):Calls prog 44 #[.pointer (some ⟨T,0,none⟩)] w fun e w'=>e= .returned (.tuple #[])∧MSt base T M mv x z fl {c with r:=c.r.set d (c.r.getD d 0 / 256*256+(if hoB s c.f=true then 1 else 0))} w'∧Ch T M mv w w':=by
 have x1:=h.xo;have x2:=h.xd;have x3:=h.xs;have x4:=h.xz;have x5:=h.xi;rw[hxo]at x1;rw[hxd]at x2;rw[hxs]at x3;have hT:=h.ltT;have hne:T≠w.heap.size:=by omega
 have hpw:=D6 h.zz;have b0:=h.rb 0;have bd:=h.rb d;have bs:=h.rb s;have hd1:(d:Int)<32:=by omega
 have hs1:(s:Int)<32:=by omega
 have fb:=h.fb;have Hrd:Hid (∀wk,XI base T M mv x z w.heap.size 29 (d:Int) (s:Int) x.z x.i w fl c wk→wk.cell? ⟨M,d,none⟩=some (.int .u32 (c.r.getD d 0))):=hid (fun wk hk=>((XC.m hk).reg hd).1);have Hrs:Hid (∀wk,XI base T M mv x z w.heap.size 29 (d:Int) (s:Int) x.z x.i w fl c wk→wk.cell? ⟨M,s,none⟩=some (.int .u32 (c.r.getD s 0))):=hid (fun wk hk=>((XC.m hk).reg hs).1);have Hr0:Hid (∀wk,XI base T M mv x z w.heap.size 29 (d:Int) (s:Int) x.z x.i w fl c wk→wk.cell? ⟨M,0,none⟩=some (.int .u32 (c.r.getD 0 0))):=hid (fun wk hk=>((XC.m hk).reg (d:=0) (by decide)).1);have Hff:Hid (∀wk,XI base T M mv x z w.heap.size 29 (d:Int) (s:Int) x.z x.i w fl c wk→wk.cell? ⟨M,32,none⟩=some (.int .i64 c.f)):=hid (fun wk hk=>(XC.m hk).flg.1);have HB:Hid (∀wk wk',XI base T M mv x z w.heap.size 29 (d:Int) (s:Int) x.z x.i w fl c wk→Below wk.heap.size wk wk'→XI base T M mv x z w.heap.size 29 (d:Int) (s:Int) x.z x.i w fl c wk'):=hid (fun wk wk' hk hb=>XC.next hk ((XC.m hk).same hb) (Ch.of_below hb));have HR:Hid (∀wk,XI base T M mv x z w.heap.size 29 (d:Int) (s:Int) x.z x.i w fl c wk→wk.cell? ⟨M,d,none⟩=some (.int .u32 (c.r.getD d 0))∧wk.frozen? ⟨M,d,none⟩=false):=hid (fun wk hk=>(XC.m hk).reg hd);have HF:Hid (∀wk,XI base T M mv x z w.heap.size 29 (d:Int) (s:Int) x.z x.i w fl c wk→MSt base T M mv x z fl {c with r:=c.r.set d (c.r.getD d 0 / 256*256+(if hoB s c.f=true then 1 else 0))} (wk.setCell ⟨M,d,none⟩ (.int .u32 (c.r.getD d 0 / 256*256+(if hoB s c.f=true then 1 else 0))))∧Ch T M mv w (wk.setCell ⟨M,d,none⟩ (.int .u32 (c.r.getD d 0 / 256*256+(if hoB s c.f=true then 1 else 0))))):=hid (fun wk hk=>⟨(XC.m hk).setR hd (by split<;>omega) (by split<;>omega),(XC.ch hk).setM _ _⟩);have CH:=hid (fun wk=>b6 (s:Int) c.f wk hc fb.1 fb.2);generalize hoB (s:Int) c.f=hb at*
 clear hc;have CF:=hid (fun wk=>K5 hb 1 wk);have HO:=hid (A2p (c.r.getD d 0) bd.1 bd.2 hb);have hq0:(if hb=true then(1:Int)else 0)%4294967296=(if hb=true then(1:Int)else 0):=by split<;>rfl
 generalize(if hb=true then(1:Int)else 0)=q at*
 generalize x.z=xz at*
 generalize x.i=xi at*
 have hX:=XC.new h 29 (d:Int) (s:Int) xz xi;generalize c.r.getD 0 0=v0 at*
 generalize c.r.getD d 0=vd at*
 generalize c.r.getD s 0=vs at*
 generalize c.f=f at*
 clear h;go_enter func44,ntmps44;go_upto_region 47 with fail
 generalize(w.alloc (.cells #[.int .i64 29,.int .i64 (d:Int),.int .i64 (s:Int),.int .i64 xz,.int .i64 xi] 61))=wa at*
 generalize w.heap.size=B at*
 have ne:Nonempty (In (XI base T M mv x z B 29 (d:Int) (s:Int) xz xi w fl c)):=⟨⟨wa,hX⟩⟩
 have p0:∀s':In (XI base T M mv x z B 29 (d:Int) (s:Int) xz xi w fl c),s'.w.cell? ⟨T,0,none⟩=some (.pointer (some ⟨M,0,none⟩)):=fun s'=>(XC.m s'.h).ptr
 have b1:∀s':In (XI base T M mv x z B 29 (d:Int) (s:Int) xz xi w fl c),s'.w.cell? ⟨B,1,none⟩=some (.int .i64 (d:Int)):=fun s'=>(XC.b s'.h).cells.1.2.1
 have b2:∀s':In (XI base T M mv x z B 29 (d:Int) (s:Int) xz xi w fl c),s'.w.cell? ⟨B,2,none⟩=some (.int .i64 (s:Int)):=fun s'=>(XC.b s'.h).cells.1.2.2.1
 have b4:∀s':In (XI base T M mv x z B 29 (d:Int) (s:Int) xz xi w fl c),s'.w.cell? ⟨B,4,none⟩=some (.int .i64 xi):=fun s'=>(XC.b s'.h).cells.1.2.2.2.2
 have rdd:∀s':In (XI base T M mv x z B 29 (d:Int) (s:Int) xz xi w fl c),s'.w.cell? ⟨M,d,none⟩=some (.int .u32 vd):=fun s'=>Hrd.out _ s'.h
 have rss:∀s':In (XI base T M mv x z B 29 (d:Int) (s:Int) xz xi w fl c),s'.w.cell? ⟨M,s,none⟩=some (.int .u32 vs):=fun s'=>Hrs.out _ s'.h
 have r00:∀s':In (XI base T M mv x z B 29 (d:Int) (s:Int) xz xi w fl c),s'.w.cell? ⟨M,0,none⟩=some (.int .u32 v0):=fun s'=>Hr0.out _ s'.h
 have ff:∀s':In (XI base T M mv x z B 29 (d:Int) (s:Int) xz xi w fl c),s'.w.cell? ⟨M,32,none⟩=some (.int .i64 f):=fun s'=>Hff.out _ s'.h
 refine J0 (XI base T M mv x z B 29 (d:Int) (s:Int) xz xi w fl c) 33 (by kernel_rfl) (by kernel_rfl) (XC.drew hX) ?_;dsimp only[List.take,List.drop]
 repeat(go_big_quiet_step (first|(go_at_call 82;with_reducible exact Calls.calm (CH.out _) (fun w' h=>HB.out _ _ (In.h _) h))|((go_at_call 81);with_reducible exact Calls.calm (CF.out _) (fun w' h=>by rw[←h];exact In.h _))))
 refine wpQuiet_nil ?_;intro wq hwq;clear ne p0 b1 b2 b4 rdd rss r00 ff;have hq:=(HR.out _ hwq)
 have hF:=HF.out _ hwq;obtain⟨hq1,hq2⟩:=hq;go_wp2_with fail
 rw[HO.out];exact bodyPost_end (v:=.tuple #[]) (by simp[results,results44,go_sem]) rfl ⟨rfl,hF.1,hF.2⟩
theorem A6h(d s:Nat)(hd:d<32)(hs:s<32)(w:World)(h:MSt base T M mv x z fl c w)(hxo:x.o=30)(hxd:x.d=(d:Int))(hxs:x.s=(s:Int)):Calls prog 44 #[.pointer (some ⟨T,0,none⟩)] w fun e w'=>e= .returned (.tuple #[])∧MSt base T M mv x z fl {c with r:=c.r.set d (c.r.getD s 0%256)} w'∧Ch T M mv w w':=by
 have x1:=h.xo;have x2:=h.xd;have x3:=h.xs;have x4:=h.xz;have x5:=h.xi;rw[hxo]at x1;rw[hxd]at x2;rw[hxs]at x3;have hT:=h.ltT;have hne:T≠w.heap.size:=by omega
 have hpw:=D6 h.zz;have b0:=h.rb 0;have bd:=h.rb d;have bs:=h.rb s;have hd1:(d:Int)<32:=by omega
 have hs1:(s:Int)<32:=by omega
 have fb:=h.fb;have Hrd:Hid (∀wk,XI base T M mv x z w.heap.size 30 (d:Int) (s:Int) x.z x.i w fl c wk→wk.cell? ⟨M,d,none⟩=some (.int .u32 (c.r.getD d 0))):=hid (fun wk hk=>((XC.m hk).reg hd).1);have Hrs:Hid (∀wk,XI base T M mv x z w.heap.size 30 (d:Int) (s:Int) x.z x.i w fl c wk→wk.cell? ⟨M,s,none⟩=some (.int .u32 (c.r.getD s 0))):=hid (fun wk hk=>((XC.m hk).reg hs).1);have Hr0:Hid (∀wk,XI base T M mv x z w.heap.size 30 (d:Int) (s:Int) x.z x.i w fl c wk→wk.cell? ⟨M,0,none⟩=some (.int .u32 (c.r.getD 0 0))):=hid (fun wk hk=>((XC.m hk).reg (d:=0) (by decide)).1);have Hff:Hid (∀wk,XI base T M mv x z w.heap.size 30 (d:Int) (s:Int) x.z x.i w fl c wk→wk.cell? ⟨M,32,none⟩=some (.int .i64 c.f)):=hid (fun wk hk=>(XC.m hk).flg.1);have HB:Hid (∀wk wk',XI base T M mv x z w.heap.size 30 (d:Int) (s:Int) x.z x.i w fl c wk→Below wk.heap.size wk wk'→XI base T M mv x z w.heap.size 30 (d:Int) (s:Int) x.z x.i w fl c wk'):=hid (fun wk wk' hk hb=>XC.next hk ((XC.m hk).same hb) (Ch.of_below hb));have HR:Hid (∀wk,XI base T M mv x z w.heap.size 30 (d:Int) (s:Int) x.z x.i w fl c wk→wk.cell? ⟨M,d,none⟩=some (.int .u32 (c.r.getD d 0))∧wk.frozen? ⟨M,d,none⟩=false):=hid (fun wk hk=>(XC.m hk).reg hd);have HF:Hid (∀wk,XI base T M mv x z w.heap.size 30 (d:Int) (s:Int) x.z x.i w fl c wk→MSt base T M mv x z fl {c with r:=c.r.set d (c.r.getD s 0%256)} (wk.setCell ⟨M,d,none⟩ (.int .u32 (c.r.getD s 0%256)))∧Ch T M mv w (wk.setCell ⟨M,d,none⟩ (.int .u32 (c.r.getD s 0%256)))):=hid (fun wk hk=>⟨(XC.m hk).setR hd (by omega) (by omega),(XC.ch hk).setM _ _⟩);have HA:=A9i (c.r.getD s 0) bs.1 bs.2;generalize x.z=xz at*
 generalize x.i=xi at*
 have hX:=XC.new h 30 (d:Int) (s:Int) xz xi;generalize c.r.getD 0 0=v0 at*
 generalize c.r.getD d 0=vd at*
 generalize c.r.getD s 0=vs at*
 generalize c.f=f at*
 clear h;go_enter func44,ntmps44;go_upto_region 49 with fail
 generalize(w.alloc (.cells #[.int .i64 30,.int .i64 (d:Int),.int .i64 (s:Int),.int .i64 xz,.int .i64 xi] 61))=wa at*
 generalize w.heap.size=B at*
 have ne:Nonempty (In (XI base T M mv x z B 30 (d:Int) (s:Int) xz xi w fl c)):=⟨⟨wa,hX⟩⟩
 have p0:∀s':In (XI base T M mv x z B 30 (d:Int) (s:Int) xz xi w fl c),s'.w.cell? ⟨T,0,none⟩=some (.pointer (some ⟨M,0,none⟩)):=fun s'=>(XC.m s'.h).ptr
 have b1:∀s':In (XI base T M mv x z B 30 (d:Int) (s:Int) xz xi w fl c),s'.w.cell? ⟨B,1,none⟩=some (.int .i64 (d:Int)):=fun s'=>(XC.b s'.h).cells.1.2.1
 have b2:∀s':In (XI base T M mv x z B 30 (d:Int) (s:Int) xz xi w fl c),s'.w.cell? ⟨B,2,none⟩=some (.int .i64 (s:Int)):=fun s'=>(XC.b s'.h).cells.1.2.2.1
 have b4:∀s':In (XI base T M mv x z B 30 (d:Int) (s:Int) xz xi w fl c),s'.w.cell? ⟨B,4,none⟩=some (.int .i64 xi):=fun s'=>(XC.b s'.h).cells.1.2.2.2.2
 have rdd:∀s':In (XI base T M mv x z B 30 (d:Int) (s:Int) xz xi w fl c),s'.w.cell? ⟨M,d,none⟩=some (.int .u32 vd):=fun s'=>Hrd.out _ s'.h
 have rss:∀s':In (XI base T M mv x z B 30 (d:Int) (s:Int) xz xi w fl c),s'.w.cell? ⟨M,s,none⟩=some (.int .u32 vs):=fun s'=>Hrs.out _ s'.h
 have r00:∀s':In (XI base T M mv x z B 30 (d:Int) (s:Int) xz xi w fl c),s'.w.cell? ⟨M,0,none⟩=some (.int .u32 v0):=fun s'=>Hr0.out _ s'.h
 have ff:∀s':In (XI base T M mv x z B 30 (d:Int) (s:Int) xz xi w fl c),s'.w.cell? ⟨M,32,none⟩=some (.int .i64 f):=fun s'=>Hff.out _ s'.h
 refine J0 (XI base T M mv x z B 30 (d:Int) (s:Int) xz xi w fl c) 20 (by kernel_rfl) (by kernel_rfl) (XC.drew hX) ?_;dsimp only[List.take,List.drop]
 repeat(go_big_quiet_step (fail))
 exact A7T
theorem A6g(d s:Nat)(hd:d<32)(hs:s<32)(w:World)(h:MSt base T M mv x z fl c w)(hxo:x.o=31)(hxd:x.d=(d:Int))(hxs:x.s=(s:Int))(hc:isC x.i=true):Calls prog 44 #[.pointer (some ⟨T,0,none⟩)] w fun e w'=>e= .returned (.tuple #[])∧MSt base T M mv x z fl (if hoB x.i c.f=true then{c with r:=c.r.set d (c.r.getD s 0)}else c) w'∧Ch T M mv w w':=by
 have x1:=h.xo;have x2:=h.xd;have x3:=h.xs;have x4:=h.xz;have x5:=h.xi;rw[hxo]at x1;rw[hxd]at x2;rw[hxs]at x3;have hT:=h.ltT;have hne:T≠w.heap.size:=by omega
 have hpw:=D6 h.zz;have b0:=h.rb 0;have bd:=h.rb d;have bs:=h.rb s;have hd1:(d:Int)<32:=by omega
 have hs1:(s:Int)<32:=by omega
 have fb:=h.fb;have Hrd:Hid (∀wk,XI base T M mv x z w.heap.size 31 (d:Int) (s:Int) x.z x.i w fl c wk→wk.cell? ⟨M,d,none⟩=some (.int .u32 (c.r.getD d 0))):=hid (fun wk hk=>((XC.m hk).reg hd).1);have Hrs:Hid (∀wk,XI base T M mv x z w.heap.size 31 (d:Int) (s:Int) x.z x.i w fl c wk→wk.cell? ⟨M,s,none⟩=some (.int .u32 (c.r.getD s 0))):=hid (fun wk hk=>((XC.m hk).reg hs).1);have Hr0:Hid (∀wk,XI base T M mv x z w.heap.size 31 (d:Int) (s:Int) x.z x.i w fl c wk→wk.cell? ⟨M,0,none⟩=some (.int .u32 (c.r.getD 0 0))):=hid (fun wk hk=>((XC.m hk).reg (d:=0) (by decide)).1);have Hff:Hid (∀wk,XI base T M mv x z w.heap.size 31 (d:Int) (s:Int) x.z x.i w fl c wk→wk.cell? ⟨M,32,none⟩=some (.int .i64 c.f)):=hid (fun wk hk=>(XC.m hk).flg.1);have HB:Hid (∀wk wk',XI base T M mv x z w.heap.size 31 (d:Int) (s:Int) x.z x.i w fl c wk→Below wk.heap.size wk wk'→XI base T M mv x z w.heap.size 31 (d:Int) (s:Int) x.z x.i w fl c wk'):=hid (fun wk wk' hk hb=>XC.next hk ((XC.m hk).same hb) (Ch.of_below hb));have HR:Hid (∀wk,XI base T M mv x z w.heap.size 31 (d:Int) (s:Int) x.z x.i w fl c wk→wk.cell? ⟨M,d,none⟩=some (.int .u32 (c.r.getD d 0))∧wk.frozen? ⟨M,d,none⟩=false):=hid (fun wk hk=>(XC.m hk).reg hd);have HF:Hid (∀wk,XI base T M mv x z w.heap.size 31 (d:Int) (s:Int) x.z x.i w fl c wk→MSt base T M mv x z fl {c with r:=c.r.set d (c.r.getD s 0)} (wk.setCell ⟨M,d,none⟩ (.int .u32 (c.r.getD s 0)))∧Ch T M mv w (wk.setCell ⟨M,d,none⟩ (.int .u32 (c.r.getD s 0)))):=hid (fun wk hk=>⟨(XC.m hk).setR hd bs.1 bs.2,(XC.ch hk).setM _ _⟩);have CH:=hid (fun wk=>b6 x.i c.f wk hc fb.1 fb.2);generalize hoB x.i c.f=hb at*
 clear hc;generalize x.z=xz at*
 generalize x.i=xi at*
 have hX:=XC.new h 31 (d:Int) (s:Int) xz xi;generalize c.r.getD 0 0=v0 at*
 generalize c.r.getD d 0=vd at*
 generalize c.r.getD s 0=vs at*
 generalize c.f=f at*
 clear h;go_enter func44,ntmps44;go_upto_region 51 with fail
 generalize(w.alloc (.cells #[.int .i64 31,.int .i64 (d:Int),.int .i64 (s:Int),.int .i64 xz,.int .i64 xi] 61))=wa at*
 generalize w.heap.size=B at*
 have ne:Nonempty (In (XI base T M mv x z B 31 (d:Int) (s:Int) xz xi w fl c)):=⟨⟨wa,hX⟩⟩
 have p0:∀s':In (XI base T M mv x z B 31 (d:Int) (s:Int) xz xi w fl c),s'.w.cell? ⟨T,0,none⟩=some (.pointer (some ⟨M,0,none⟩)):=fun s'=>(XC.m s'.h).ptr
 have b1:∀s':In (XI base T M mv x z B 31 (d:Int) (s:Int) xz xi w fl c),s'.w.cell? ⟨B,1,none⟩=some (.int .i64 (d:Int)):=fun s'=>(XC.b s'.h).cells.1.2.1
 have b2:∀s':In (XI base T M mv x z B 31 (d:Int) (s:Int) xz xi w fl c),s'.w.cell? ⟨B,2,none⟩=some (.int .i64 (s:Int)):=fun s'=>(XC.b s'.h).cells.1.2.2.1
 have b4:∀s':In (XI base T M mv x z B 31 (d:Int) (s:Int) xz xi w fl c),s'.w.cell? ⟨B,4,none⟩=some (.int .i64 xi):=fun s'=>(XC.b s'.h).cells.1.2.2.2.2
 have rdd:∀s':In (XI base T M mv x z B 31 (d:Int) (s:Int) xz xi w fl c),s'.w.cell? ⟨M,d,none⟩=some (.int .u32 vd):=fun s'=>Hrd.out _ s'.h
 have rss:∀s':In (XI base T M mv x z B 31 (d:Int) (s:Int) xz xi w fl c),s'.w.cell? ⟨M,s,none⟩=some (.int .u32 vs):=fun s'=>Hrs.out _ s'.h
 have r00:∀s':In (XI base T M mv x z B 31 (d:Int) (s:Int) xz xi w fl c),s'.w.cell? ⟨M,0,none⟩=some (.int .u32 v0):=fun s'=>Hr0.out _ s'.h
 have ff:∀s':In (XI base T M mv x z B 31 (d:Int) (s:Int) xz xi w fl c),s'.w.cell? ⟨M,32,none⟩=some (.int .i64 f):=fun s'=>Hff.out _ s'.h
 refine A0k (XI base T M mv x z B 31 (d:Int) (s:Int) xz xi w fl c) (by kernel_rfl) (by kernel_rfl) (XC.drew hX) ?_
 repeat(go_big_quiet_step ((go_at_call 82;with_reducible exact Calls.calm (CH.out _) (fun w' h=>HB.out _ _ (In.h _) h))))
 refine wpQuiet_nil ?_;intro w1 hw1;clear ne p0 b1 b2 b4 rdd rss r00 ff;clear hX;generalize wa=wa0 at*
 cases hb
 ·have hF:=(XC.m hw1)
  have hG:=(XC.ch hw1)
  go_wp2_with fail
  exact bodyPost_end (v:=.tuple #[]) (by simp[results,results44,go_sem]) rfl ⟨rfl,hF,hG⟩
 go_upto_region 52 with fail
 have hX:XC base T M mv x z B 31 (d:Int) (s:Int) xz xi w fl c w1:=hw1;generalize w1=wa at*
 have ne:Nonempty (In (XI base T M mv x z B 31 (d:Int) (s:Int) xz xi w fl c)):=⟨⟨wa,hX⟩⟩
 have p0:∀s':In (XI base T M mv x z B 31 (d:Int) (s:Int) xz xi w fl c),s'.w.cell? ⟨T,0,none⟩=some (.pointer (some ⟨M,0,none⟩)):=fun s'=>(XC.m s'.h).ptr
 have b1:∀s':In (XI base T M mv x z B 31 (d:Int) (s:Int) xz xi w fl c),s'.w.cell? ⟨B,1,none⟩=some (.int .i64 (d:Int)):=fun s'=>(XC.b s'.h).cells.1.2.1
 have b2:∀s':In (XI base T M mv x z B 31 (d:Int) (s:Int) xz xi w fl c),s'.w.cell? ⟨B,2,none⟩=some (.int .i64 (s:Int)):=fun s'=>(XC.b s'.h).cells.1.2.2.1
 have b4:∀s':In (XI base T M mv x z B 31 (d:Int) (s:Int) xz xi w fl c),s'.w.cell? ⟨B,4,none⟩=some (.int .i64 xi):=fun s'=>(XC.b s'.h).cells.1.2.2.2.2
 have rdd:∀s':In (XI base T M mv x z B 31 (d:Int) (s:Int) xz xi w fl c),s'.w.cell? ⟨M,d,none⟩=some (.int .u32 vd):=fun s'=>Hrd.out _ s'.h
 have rss:∀s':In (XI base T M mv x z B 31 (d:Int) (s:Int) xz xi w fl c),s'.w.cell? ⟨M,s,none⟩=some (.int .u32 vs):=fun s'=>Hrs.out _ s'.h
 have r00:∀s':In (XI base T M mv x z B 31 (d:Int) (s:Int) xz xi w fl c),s'.w.cell? ⟨M,0,none⟩=some (.int .u32 v0):=fun s'=>Hr0.out _ s'.h
 have ff:∀s':In (XI base T M mv x z B 31 (d:Int) (s:Int) xz xi w fl c),s'.w.cell? ⟨M,32,none⟩=some (.int .i64 f):=fun s'=>Hff.out _ s'.h
 refine J0 (XI base T M mv x z B 31 (d:Int) (s:Int) xz xi w fl c) 19 (by kernel_rfl) (by kernel_rfl) (XC.drew hX) ?_;dsimp only[List.take,List.drop]
 repeat(go_big_quiet_step ((go_at_call 82;with_reducible exact Calls.calm (CH.out _) (fun w' h=>HB.out _ _ (In.h _) h))))
 exact A7T
end
end Go.Proofs.YtdojafpjipcbjaaGreat
namespace Go.Proofs.YtdojafpjipcbjaaGreat
open Go.RowKit Go.Maps
set_option linter.unusedVariables false
set_option linter.unusedSimpArgs false
theorem Ints.drop{k:IntKind}{w:World}{a:Option Addr}{c m:Nat}{xs:List Int}(h:Ints k w (.slice a xs.length c) xs)(hm:m≤xs.length):Ints k w (.slice (if c=m then a else a.map (fun x=>x.add m)) (xs.length-m) (c-m)) (xs.drop m):=by
 obtain⟨a',c',e,h1,h2,h3,h4⟩:=h;cases e;have hl:(xs.drop m).length=xs.length-m:=List.length_drop;refine⟨_,c-m,by rw[hl],by omega,by omega,fun e=>?_,fun i hi=>?_⟩
 ·by_cases hc:c=m
  ·omega
  ·rw[if_neg hc]at e;rcases a with _|a
   ·have:=h3 rfl;omega
   ·cases e
 ·rw[hl]at hi;obtain⟨b,o,e',h5,h6⟩:=h4 (m+i) (by omega);subst e';have hc:c≠m:=by omega
  refine⟨b,o+m,by rw[if_neg hc];simp[Addr.add],h5,?_⟩;show w.cell? _=_
  have h6':w.cell? ⟨b,o+(m+i)*1,none⟩=some (.int k (xs.getD (m+i) 0)):=h6;rw[show o+m+i*1=o+(m+i)*1 by omega,h6'];simp[List.getD_eq_getElem?_getD,List.getElem?_drop]
theorem RowA.app{w':World}{base:Nat}{v':Value}{xs:List Ins}{x:Ins}(h:w'.ownsRow base 61 5 v' (xs.length+1) (A1k xs++iaC x)):RowA w' base v' (xs++[x]):=by
 unfold RowA;rw[A3L,List.length_append];exact h
end Go.Proofs.YtdojafpjipcbjaaGreat
