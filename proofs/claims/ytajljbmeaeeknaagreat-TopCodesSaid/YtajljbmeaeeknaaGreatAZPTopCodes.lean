/-
  The Go function TopCodes of package backstaytop returns true for every input, and every argument reads behind the call as it read before. There is no condition.
-/
import Derived.Test.YtajljbmeaeeknaaGreatA33
open Go.Proofs.Tryz
namespace Go.Proofs.YtajljbmeaeeknaaGreat.topCodes
open Go.ChangeShapes Go.WideShapes Go.ChangeAt Go.RowKit
set_option linter.unusedVariables false
theorem own:ownKnob prog.godebug=none:=by kernel_rfl
theorem A6K:∀t∈f6.params.toList,prog.readableRec t=true∧t<prog.types.size:=by
 have h:(f6.params.toList.all fun t=>prog.readableRec t&&decide (t<prog.types.size))=true:=by kernel_rfl
 intro t ht;have:=List.all_eq_true.1 h t ht;simpa using this
theorem B5f:∃f0 f1 f2 f3 f4,InsTy prog 75 f0 f1 f2 f3 f4:=
 ⟨_,_,_,_,_,⟨(show prog.underlying 75=some (.struct #[_,_,_,_,_])from underlying75),⟨rfl,rfl,rfl,rfl,rfl⟩,by kernel_rfl,by kernel_rfl,by kernel_rfl,by kernel_rfl,by kernel_rfl,⟨by kernel_rfl,by kernel_rfl,by kernel_rfl,by kernel_rfl,by kernel_rfl,by kernel_rfl⟩⟩⟩
theorem B4n:∃f0 f1 f2 f3 f4,InsTy prog 89 f0 f1 f2 f3 f4:=
 ⟨_,_,_,_,_,⟨(show prog.underlying 89=some (.struct #[_,_,_,_,_])from underlying89),⟨rfl,rfl,rfl,rfl,rfl⟩,by kernel_rfl,by kernel_rfl,by kernel_rfl,by kernel_rfl,by kernel_rfl,⟨by kernel_rfl,by kernel_rfl,by kernel_rfl,by kernel_rfl,by kernel_rfl,by kernel_rfl⟩⟩⟩
theorem B4c:∃f0 f1 f2 f3 f4,MacTy prog 48 45 5 f0 f1 f2 f3 f4:=
 ⟨_,_,_,_,_,⟨(show prog.underlying 48=some (.struct #[_,_,_,_,_])from underlying48),⟨rfl,rfl,rfl,rfl,rfl⟩,by kernel_rfl,by kernel_rfl,by kernel_rfl,by kernel_rfl,by kernel_rfl,by kernel_rfl,by kernel_rfl,⟨by kernel_rfl,by kernel_rfl,by kernel_rfl,by kernel_rfl,by kernel_rfl,by kernel_rfl⟩,⟨by kernel_rfl,by kernel_rfl⟩,of_decide_eq_true (by kernel_rfl)⟩⟩
set_option maxRecDepth 100000 in
theorem B1v(os:Os)(started:os.Started)(H:Type)(enc:TypeId×Value→H):
  ReturnsInHanded {} checked os 6 .any (Rows.topCodesSpec.pre6 enc prog f6 Rows.topCodesRow.domain false) (Rows.topCodesSpec.post enc prog f6 false true false false):=by
 refine returnsInHanded_of_change_sized (C:=checked) own started (by kernel_rfl) func6
  (ChangeSpec.witness6 (enc:=enc) (C:=checked) false ⟨#[],#[.agg #[.slice none 0 0,.slice none 0 0],.agg #[.int .u32 0,.int .u32 0,.int .u32 0,.int .u32 0,.int .u32 0,.int .u32 0,.int .u32 0,.int .u32 0,.int .u32 0,.int .u32 0,.int .u32 0,.int .u32 0,.int .u32 0,.int .u32 0,.int .u32 0,.int .u32 0,.int .u32 0,.int .u32 0,.int .u32 0,.int .u32 0,.int .u32 0,.int .u32 0,.int .u32 0,.int .u32 0,.int .u32 0,.int .u32 0,.int .u32 0,.int .u32 0,.int .u32 0,.int .u32 0,.int .u32 0,.int .u32 0,.int .i64 0,.int .u32 0,.slice none 0 0,.int .i64 0],.agg #[.int .i64 0,.int .i64 0]],[]⟩ 8 (by kernel_rfl) (by kernel_rfl) (by kernel_rfl) (by kernel_rfl)) ?_
 intro W base args ds gs before hval0 hW hcnd hsz0 _;have hval:∀(j:Nat) t v,f6.params[j]? =some t→args[j]? =some v→Value.okWide prog W .any base t v:=hval0;have hsz:(DataW.weightsEach prog (f6.params.toList++Rows.topCodesSpec.plain.varTypes prog) (ds++gs)).all (·≤reachBytes)=true:=hsz0;clear hsz0;have hW':=hW;obtain⟨p,q,hA0,hV,rfl,hfz,hnd⟩:=hW;have hA:DataW.TrodAll enc prog W 0 (fun _=>true) true f6.params.toList args.toList ds p:=hA0;rw[params6]at hA hval hsz;obtain⟨v0,vs0,d0,ds0,p0,q0,hargs,rfl,rfl,h0,r0⟩:=trodAll_cons hA;obtain⟨v1,vs1,d1,ds1,p1,q1,rfl,rfl,rfl,h1,r1⟩:=trodAll_cons r0;obtain⟨v2,vs2,d2,ds2,p2,q2,rfl,rfl,rfl,h2,r2⟩:=trodAll_cons r1;obtain⟨rfl,rfl,rfl⟩:=trodAll_nil r2;obtain rfl:args=#[v0,v1,v2]:=by cases args;simp_all
 obtain⟨rfl,rfl⟩:=trodVars_none hV;obtain⟨c00,c01,y00,y01,m0,rfl,rfl,rfl,hy00,hy01⟩:=Joins.open_agg2 underlying69 (by kernel_rfl) (show prog.cellsOf 69=2 by kernel_rfl) (hval 0 69 v0 rfl rfl) h0;obtain⟨d00,q00⟩:=y00;have hw00:∀n∈d00.weights prog 66,n≤reachBytes:=fun n hn=>by have:=List.all_eq_true.1 hsz n (DataW.weights_mem_each (j:=0) rfl rfl n (U8 underlying69 (i:=0) rfl rfl hn));simpa using this
 obtain⟨f0,f1,f2,f3,f4,hTy0⟩:=B5f;obtain⟨u00,t00,hcs00,hN00,hwf00⟩:=B0A underlying66 hTy0 (of_decide_eq_true (by kernel_rfl)) hy00 hw00;have hu00:c00=u00:=by simpa using hcs00
 subst hu00;obtain⟨d01,q01⟩:=y01;have hw01:∀n∈d01.weights prog 67,n≤reachBytes:=fun n hn=>by have:=List.all_eq_true.1 hsz n (DataW.weights_mem_each (j:=0) rfl rfl n (U8 underlying69 (i:=1) rfl rfl hn));simpa using this
 obtain⟨f0,f1,f2,f3,f4,hTy1⟩:=B4n;obtain⟨u01,t01,hcs01,hN01,hwf01⟩:=B0A underlying67 hTy1 (of_decide_eq_true (by kernel_rfl)) hy01 hw01;have hu01:c01=u01:=by simpa using hcs01
 subst hu01;obtain⟨f0,f1,f2,f3,f4,hTyM⟩:=B4c;have hw1:∀n∈d1.weights prog 48,n≤reachBytes:=fun n hn=>by have:=List.all_eq_true.1 hsz n (DataW.weights_mem_each (j:=1) rfl rfl n hn);simpa using this
 obtain⟨c1,mv1,rfl,hr1,hrb1,hfl1,ha1,he1,hN1,hwf1⟩:=B3I hTyM (hval 1 48 v1 rfl rfl) h1 hw1;obtain⟨c20,c21,y20,y21,m2,rfl,rfl,rfl,hy20,hy21⟩:=Joins.open_agg2 underlying71 (by kernel_rfl) (show prog.cellsOf 71=2 by kernel_rfl) (hval 2 71 v2 rfl rfl) h2;obtain⟨a20,e20,rfl,w20⟩:=DataW.trod_int underlying3 hy20;simp at e20;subst e20;have ba20: -9223372036854775808≤a20∧a20≤9223372036854775807:=by simpa[Lit.wf,IntKind.min,IntKind.max,IntKind.signed,IntKind.bits]using w20
 obtain⟨a21,e21,rfl,w21⟩:=DataW.trod_int underlying3 hy21;simp at e21;subst e21;have ba21: -9223372036854775808≤a21∧a21≤9223372036854775807:=by simpa[Lit.wf,IntKind.min,IntKind.max,IntKind.signed,IntKind.bits]using w21
 refine(A4I (t00.map A2D) t01 c1 a20 a21 _ _ mv1 W (B0w hN00) hN01 ⟨hr1,hrb1,ha1,hwf1⟩ hN1).mono fun e W' ⟨he,hb⟩=>?_
 subst he;exact⟨_,rfl,A6O (tb:=4) (by kernel_rfl) A6K rfl underlying4 rfl hW' rfl hb⟩
theorem B5h:Rows.topCodesRow.holds Tryz.pinned (OpenSpec.ofChange Rows.topCodesSpec):=
 OpenClaim.holds_of_wide 6 f6 rfl rfl rfl rfl rfl rfl rfl ⟨rfl,rfl,rfl,rfl,rfl⟩ rfl rfl rfl rfl rfl (by kernel_rfl) func6 (by kernel_rfl)
  (of_decide_eq_true (by kernel_rfl)) (by unfold Func.isWrapper;rw[if_neg (by decide+kernel)];exact⟨rfl,rfl⟩)
  (fun os started H enc _=>B1v os started H enc)
theorem proved:Rows.TopCodesSaid:=B5h
#print axioms proved
end Go.Proofs.YtajljbmeaeeknaaGreat.topCodes
