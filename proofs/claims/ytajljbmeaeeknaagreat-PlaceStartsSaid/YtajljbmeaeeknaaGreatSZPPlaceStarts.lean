/-
  The Go function PlaceStarts of package backstaylaw22 returns true for every input, and every argument reads behind the call as it read before. There is no condition.
-/
import Derived.Lib.SmallJoins
import Derived.Test.YtajljbmeaeeknaaGreatS21
import Derived.Test.YtajljbmeaeeknaaGreatS26
open Go.Proofs.Tryz
namespace Go.Proofs.YtajljbmeaeeknaaGreat.placeStarts
open Go.ChangeShapes Go.WideShapes Go.ChangeAt Go.RowKit
set_option linter.unusedVariables false
theorem own:ownKnob prog.godebug=none:=by kernel_rfl
theorem A4Q:∀t∈f4.params.toList,prog.readableRec t=true∧t<prog.types.size:=by
 have h:(f4.params.toList.all fun t=>prog.readableRec t&&decide (t<prog.types.size))=true:=by kernel_rfl
 intro t ht;have:=List.all_eq_true.1 h t ht;simpa using this
theorem B0N:∃f0 f1 f2 f3 f4 f5,CdTy prog 61 59 f0 f1 f2 f3 f4 f5:=
 ⟨_,_,_,_,_,_,⟨(show prog.underlying 61=some (.struct #[_,_,_,_,_,_])from underlying61),underlying59,⟨rfl,rfl,rfl,rfl,rfl,rfl⟩,⟨by kernel_rfl,by kernel_rfl,by kernel_rfl,by kernel_rfl,by kernel_rfl,by kernel_rfl⟩,⟨by kernel_rfl,by kernel_rfl,by kernel_rfl,by kernel_rfl,by kernel_rfl,by kernel_rfl⟩,⟨by kernel_rfl,by kernel_rfl⟩,⟨of_decide_eq_true (by kernel_rfl),of_decide_eq_true (by kernel_rfl)⟩⟩⟩
set_option maxRecDepth 100000 in
theorem A7d(os:Os)(started:os.Started)(H:Type)(enc:TypeId×Value→H):
  ReturnsInHanded {} checked os 4 .any (Rows.placeStartsSpec.pre6 enc prog f4 Rows.placeStartsRow.domain false) (Rows.placeStartsSpec.post enc prog f4 false true false false):=by
 refine returnsInHanded_of_change_sized (C:=checked) own started (by kernel_rfl) func4
  (ChangeSpec.witness6 (enc:=enc) (C:=checked) false ⟨#[],#[.int .i64 0,.agg #[.int .i64 0,.slice none 0 0]],[]⟩ 8 (by kernel_rfl) (by kernel_rfl) (by kernel_rfl) (by kernel_rfl)) ?_
 intro W base args ds gs before hval0 hW hcnd hsz0 _;have hval:∀(j:Nat) t v,f4.params[j]? =some t→args[j]? =some v→Value.okWide prog W .any base t v:=hval0;have hsz:(DataW.weightsEach prog (f4.params.toList++Rows.placeStartsSpec.plain.varTypes prog) (ds++gs)).all (·≤reachBytes)=true:=hsz0;clear hsz0;have hW':=hW;obtain⟨p,q,hA0,hV,rfl,hfz,hnd⟩:=hW;have hA:DataW.TrodAll enc prog W 0 (fun _=>true) true f4.params.toList args.toList ds p:=hA0;rw[params4]at hA hval hsz;obtain⟨v0,vs0,d0,ds0,p0,q0,hargs,rfl,rfl,h0,r0⟩:=trodAll_cons hA;obtain⟨v1,vs1,d1,ds1,p1,q1,rfl,rfl,rfl,h1,r1⟩:=trodAll_cons r0;obtain⟨rfl,rfl,rfl⟩:=trodAll_nil r1;obtain rfl:args=#[v0,v1]:=by cases args;simp_all
 obtain⟨rfl,rfl⟩:=trodVars_none hV;obtain⟨a0,rfl,rfl,rfl,w0⟩:=open_int underlying3 (hval 0 3 v0 rfl rfl) h0;have ba0: -9223372036854775808≤a0∧a0≤9223372036854775807:=by simpa[Lit.wf,IntKind.min,IntKind.max,IntKind.signed,IntKind.bits]using w0
 obtain⟨c10,c11,y10,y11,m1,rfl,rfl,rfl,hy10,hy11⟩:=Joins.open_agg2 underlying24 (by kernel_rfl) (show prog.cellsOf 24=2 by kernel_rfl) (hval 1 24 v1 rfl rfl) h1;obtain⟨a10,e10,rfl,w10⟩:=DataW.trod_int underlying3 hy10;simp at e10;subst e10;obtain⟨d11,q11⟩:=y11;have hw1:∀n∈d11.weights prog 22,n≤reachBytes:=fun n hn=>by have:=List.all_eq_true.1 hsz n (DataW.weights_mem_each (j:=1) rfl rfl n (A0U underlying24 (i:=1) rfl rfl hn));simpa using this
 obtain⟨f0,f1,f2,f3,f4,f5,hTyC⟩:=B0N;obtain⟨u1,t1,hcs1,hN1,hwf1⟩:=A5n underlying22 hTyC hy11 hw1;have hu1:c11=u1:=by simpa using hcs1
 subst hu1;refine(t9 a0 a10 t1 _ W hN1 hwf1).mono fun e W' ⟨he,hb⟩=>?_
 subst he;exact⟨_,rfl,A4X (tb:=4) (by kernel_rfl) A4Q rfl underlying4 rfl hW' rfl hb⟩
theorem A9z:Rows.placeStartsRow.holds Tryz.pinned (OpenSpec.ofChange Rows.placeStartsSpec):=
 OpenClaim.holds_of_wide 4 f4 rfl rfl rfl rfl rfl rfl rfl ⟨rfl,rfl,rfl,rfl,rfl⟩ rfl rfl rfl rfl rfl (by kernel_rfl) func4 (by kernel_rfl)
  (of_decide_eq_true (by kernel_rfl)) (by unfold Func.isWrapper;rw[if_neg (by decide+kernel)];exact⟨rfl,rfl⟩)
  (fun os started H enc _=>A7d os started H enc)
theorem proved:Rows.PlaceStartsSaid:=A9z
#print axioms proved
end Go.Proofs.YtajljbmeaeeknaaGreat.placeStarts
