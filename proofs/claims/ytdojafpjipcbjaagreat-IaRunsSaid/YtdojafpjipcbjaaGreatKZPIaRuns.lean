/-
  The Go function IaRuns of package backstaylaw19 returns true for every input, and every argument reads behind the call as it read before. There is no condition.
-/
import Derived.Test.YtdojafpjipcbjaaGreatK37
import Derived.Test.YtdojafpjipcbjaaGreatK38
open Go.Proofs.Tryz
namespace Go.Proofs.YtdojafpjipcbjaaGreat.iaRuns
open Go.ChangeShapes Go.WideShapes Go.ChangeAt Go.RowKit
set_option linter.unusedVariables false
theorem own:ownKnob prog.godebug=none:=by kernel_rfl
theorem readable:∀t∈f4.params.toList,prog.readableRec t=true∧t<prog.types.size:=by
 have h:(f4.params.toList.all fun t=>prog.readableRec t&&decide (t<prog.types.size))=true:=by kernel_rfl
 intro t ht;have:=List.all_eq_true.1 h t ht;simpa using this
theorem macTy:∃f0 f1 f2 f3 f4,MacTy prog 26 22 5 f0 f1 f2 f3 f4:=
 ⟨_,_,_,_,_,⟨(show prog.underlying 26=some (.struct #[_,_,_,_,_])from underlying26),⟨rfl,rfl,rfl,rfl,rfl⟩,by kernel_rfl,by kernel_rfl,by kernel_rfl,by kernel_rfl,by kernel_rfl,by kernel_rfl,by kernel_rfl,⟨by kernel_rfl,by kernel_rfl,by kernel_rfl,by kernel_rfl,by kernel_rfl,by kernel_rfl⟩,⟨by kernel_rfl,by kernel_rfl⟩,of_decide_eq_true (by kernel_rfl)⟩⟩
set_option maxRecDepth 100000 in
theorem lifted(os:Os)(started:os.Started)(H:Type)(enc:TypeId×Value→H):
  ReturnsInHanded {} checked os 4 .any (Rows.iaRunsSpec.pre6 enc prog f4 Rows.iaRunsRow.domain false) (Rows.iaRunsSpec.post enc prog f4 false true false false):=by
 refine returnsInHanded_of_change_sized (C:=checked) own started (by kernel_rfl) func4
  (ChangeSpec.witness6 (enc:=enc) (C:=checked) false ⟨#[],#[.agg #[.int .u32 0,.int .u32 0,.int .u32 0,.int .u32 0,.int .u32 0,.int .u32 0,.int .u32 0,.int .u32 0,.int .u32 0,.int .u32 0,.int .u32 0,.int .u32 0,.int .u32 0,.int .u32 0,.int .u32 0,.int .u32 0,.int .u32 0,.int .u32 0,.int .u32 0,.int .u32 0,.int .u32 0,.int .u32 0,.int .u32 0,.int .u32 0,.int .u32 0,.int .u32 0,.int .u32 0,.int .u32 0,.int .u32 0,.int .u32 0,.int .u32 0,.int .u32 0,.int .i64 0,.int .u32 0,.slice none 0 0,.int .i64 0],.int .i64 0],[]⟩ 8 (by kernel_rfl) (by kernel_rfl) (by kernel_rfl) (by kernel_rfl)) ?_
 intro W base args ds gs before hval0 hW hcnd hsz0 _;have hval:∀(j:Nat) t v,f4.params[j]? =some t→args[j]? =some v→Value.okWide prog W .any base t v:=hval0;have hsz:(DataW.weightsEach prog (f4.params.toList++Rows.iaRunsSpec.plain.varTypes prog) (ds++gs)).all (·≤reachBytes)=true:=hsz0;clear hsz0;have hW':=hW;obtain⟨p,q,hA0,hV,rfl,hfz,hnd⟩:=hW;have hA:DataW.TrodAll enc prog W 0 (fun _=>true) true f4.params.toList args.toList ds p:=hA0;rw[params4]at hA hval hsz;obtain⟨v0,vs0,d0,ds0,p0,q0,hargs,rfl,rfl,h0,r0⟩:=trodAll_cons hA;obtain⟨v1,vs1,d1,ds1,p1,q1,rfl,rfl,rfl,h1,r1⟩:=trodAll_cons r0;obtain⟨rfl,rfl,rfl⟩:=trodAll_nil r1;obtain rfl:args=#[v0,v1]:=by cases args;simp_all
 obtain⟨rfl,rfl⟩:=trodVars_none hV;obtain⟨f0,f1,f2,f3,f4,hTyM⟩:=macTy;have hw0:∀n∈d0.weights prog 26,n≤reachBytes:=fun n hn=>by have:=List.all_eq_true.1 hsz n (DataW.weights_mem_each (j:=0) rfl rfl n hn);simpa using this
 obtain⟨c0,mv0,rfl,hr0,hrb0,hfl0,ha0,he0,hN0,hwf0⟩:=A7K hTyM (hval 0 26 v0 rfl rfl) h0 hw0;obtain⟨a1,rfl,rfl,rfl,w1⟩:=open_int underlying3 (hval 1 3 v1 rfl rfl) h1;have ba1: -9223372036854775808≤a1∧a1≤9223372036854775807:=by simpa[Lit.wf,IntKind.min,IntKind.max,IntKind.signed,IntKind.bits]using w1
 refine(A5W c0 mv0 a1 W ⟨hr0,hrb0,ha0,hwf0⟩ hN0).mono fun e W' ⟨he,hb⟩=>?_
 subst he;exact⟨_,rfl,A0q (tb:=4) (by kernel_rfl) readable rfl underlying4 rfl hW' rfl hb⟩
theorem over:Rows.iaRunsRow.holds Tryz.pinned (OpenSpec.ofChange Rows.iaRunsSpec):=
 OpenClaim.holds_of_wide 4 f4 rfl rfl rfl rfl rfl rfl rfl ⟨rfl,rfl,rfl,rfl,rfl⟩ rfl rfl rfl rfl rfl (by kernel_rfl) func4 (by kernel_rfl)
  (of_decide_eq_true (by kernel_rfl)) (by unfold Func.isWrapper;rw[if_neg (by decide+kernel)];exact⟨rfl,rfl⟩)
  (fun os started H enc _=>lifted os started H enc)
theorem proved:Rows.IaRunsSaid:=over
#print axioms proved
end Go.Proofs.YtdojafpjipcbjaaGreat.iaRuns
