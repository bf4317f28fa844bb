/- The law ViewMembers answers true for every input and leaves its arguments as they were, with no further condition. -/
import Derived.Test.YtjbnedjlcpdekaaL2
import Derived.Test.YtjbnedjlcpdekaaRows
import Derived.WalkKit
import Derived.ProofKit
import Derived.OpenShut
import Derived.ShutString
import Derived.ChangeOld
import Derived.Below
import Derived.SizedLaws

namespace Go.Proofs.Ytjbnedjlcpdekaa.viewMembers
open Go.VL Go.ChangeShapes Go.WideShapes Go.ChangeAt Go.RowKit Go.Proofs.Ytjbnedjlcpdekaa.N

theorem own : ownKnob Try.prog.godebug = none := by kernel_rfl
theorem laidOut : laidOutB Try.prog = true := by kernel_rfl
theorem params : Try.f8.params.toList = [28, 24, 3, 45, 4, 53] := by kernel_rfl
set_option maxRecDepth 100000 in
theorem lifted (os : Os) (started : os.Started) (H : Type) (enc : TypeId × Value → H) :
    ReturnsInHanded {} Try.checked os 8 .any (Rows.viewMembersSpec.pre6 enc Try.prog Try.f8 Rows.viewMembersRow.domain false) (Rows.viewMembersSpec.post enc Try.prog Try.f8 false true false false) := by
  refine returnsInHanded_of_change_sized (C := Try.checked) own started (by kernel_rfl) Try.func8
    (ChangeSpec.witness6 (enc := enc) (C := Try.checked) false ⟨#[], #[.agg #[.int .i64 0, .slice none 0 0], .agg #[.int .i64 0, .int .i64 0, .int .i64 0, .int .i64 0, .int .i64 0, .slice none 0 0], .int .i64 0, .agg #[.int .i64 0, .int .i64 0, .bool false], .bool false, .agg #[.int .i64 0, .int .i64 0, .int .i64 0, .int .i64 0, .int .u64 0, .int .u64 0, .slice none 0 0, .int .u64 0, .int .i64 0]], []⟩ 8 (by kernel_rfl) (by kernel_rfl) (by kernel_rfl) (by kernel_rfl)) ?_
  intro W base args ds gs before hval hW hcnd hsz _
  have hW' := hW
  obtain ⟨p, q, hA0, hV, rfl, hfz, hnd⟩ := hW
  have hA : DataW.TrodAll enc Try.prog W 0 (fun _ => true) true [28, 24, 3, 45, 4, 53] args.toList ds p := params ▸ hA0
  obtain ⟨rfl, rfl⟩ := trodVars_none hV
  obtain ⟨s, tvs, k1, k2, k3, k4⟩ := row_args (C := bodegalaw10_ViewMembers_C 2000) (tysOk _) (r := .any) (b0 := base) bodegalaw10_ViewMembers_sig.ps [28, 24, 3, 45, 4, 53] args.toList ds p (by kernel_rfl) hA
    (fun j t v h h' => hval j t v (by rw [← Array.getElem?_toList, params]; exact h) (by rw [← Array.getElem?_toList]; exact h'))
  have hl := trod_len hA
  have hF : (bodegalaw10_ViewMembers_te 2000).F s = some (true, ()) := members_true 2000 (by omega) s.1 s.2.1 s.2.2.1 s.2.2.2.1 s.2.2.2.2.1 s.2.2.2.2.2.1
  have key := call_law (bodegalaw10_ViewMembers_ok 2000) k1 k2 k3 hF rfl rfl
  have ea : args.toList.toArray = args := by simp
  rw [ea] at key
  refine key.mono fun e W' ⟨he, bel⟩ => ?_
  subst he
  have hB := row_back (Ts := [28, 24, 3, 45, 4, 53]) laidOut bel (by kernel_rfl) hA
  match ds, hl with
  | [d0, d1, d2, d3, d4, d5], _ => exact ⟨_, rfl, _, _, _, [], _, [], hW', trodAll_mk1 (shut_bool Try.underlying4 _), params ▸ hB, rfl, bel.frame _, fun h => by cases h⟩
theorem over : Rows.viewMembersRow.holds Try.pinned (OpenSpec.ofChange Rows.viewMembersSpec) :=
  OpenClaim.holds_of_wide 8 Try.f8 rfl rfl rfl rfl rfl rfl rfl ⟨rfl, rfl, rfl, rfl, rfl⟩ rfl rfl rfl rfl rfl (by kernel_rfl) Try.func8 (by kernel_rfl)
    (of_decide_eq_true (by kernel_rfl)) (by unfold Func.isWrapper; first | (rw [if_pos (by decide +kernel)]; kernel_rfl) | (rw [if_neg (by decide +kernel)]; exact ⟨rfl, rfl⟩))
    (fun os started H enc _ => lifted os started H enc)
end Go.Proofs.Ytjbnedjlcpdekaa.viewMembers
namespace Go.Proofs.Ytjbnedjlcpdekaa
theorem viewMembers_holds : Rows.ViewMembersSaid := viewMembers.over
#print axioms viewMembers_holds
end Go.Proofs.Ytjbnedjlcpdekaa
