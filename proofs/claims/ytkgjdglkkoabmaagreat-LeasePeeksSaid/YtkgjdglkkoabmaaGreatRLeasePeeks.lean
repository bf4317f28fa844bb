/- The law LeasePeeks answers true for every input and leaves its arguments as they were, with no further condition. -/
import Derived.Test.YtkgjdglkkoabmaaGreatEP
import Derived.Test.YtkgjdglkkoabmaaGreatRows
import Derived.WalkKit
import Derived.ProofKit
import Derived.OpenShut
import Derived.ShutString
import Derived.ChangeOld
import Derived.Below
import Derived.SizedLaws

namespace Go.Proofs.YtkgjdglkkoabmaaGreat.leasePeeks
open Go.VL Go.ChangeShapes Go.WideShapes Go.ChangeAt Go.RowKit Go.Proofs.YtkgjdglkkoabmaaGreat.N

theorem own : ownKnob Tryz.prog.godebug = none := by kernel_rfl
theorem laidOut : laidOutB Tryz.prog = true := by kernel_rfl
theorem params : Tryz.f6.params.toList = [23, 3, 24, 25, 4, 3] := by kernel_rfl
set_option maxRecDepth 100000 in
theorem lifted (os : Os) (started : os.Started) (H : Type) (enc : TypeId × Value → H) :
    ReturnsInHanded {} Tryz.checked os 6 .any (Rows.leasePeeksSpec.pre6 enc Tryz.prog Tryz.f6 Rows.leasePeeksRow.domain false) (Rows.leasePeeksSpec.post enc Tryz.prog Tryz.f6 false true false false) := by
  refine returnsInHanded_of_change_sized (C := Tryz.checked) own started (by kernel_rfl) Tryz.func6
    (ChangeSpec.witness6 (enc := enc) (C := Tryz.checked) false ⟨#[], #[.agg #[.int .i64 0, .int .i64 0, .int .i64 0, .int .i64 0, .int .i64 0, .int .i64 0], .int .i64 0, .slice none 0 0, .slice none 0 0, .bool false, .int .i64 0], []⟩ 8 (by kernel_rfl) (by kernel_rfl) (by kernel_rfl) (by kernel_rfl)) ?_
  intro W base args ds gs before hval hW hcnd hsz _
  have hW' := hW
  obtain ⟨p, q, hA0, hV, rfl, hfz, hnd⟩ := hW
  have hA : DataW.TrodAll enc Tryz.prog W 0 (fun _ => true) true [23, 3, 24, 25, 4, 3] args.toList ds p := params ▸ hA0
  obtain ⟨rfl, rfl⟩ := trodVars_none hV
  obtain ⟨s, tvs, k1, k2, k3, k4⟩ := row_args (C := bodegalaw15_LeasePeeks_C 2000) (tysOk _ _ _) (r := .any) (b0 := base) bodegalaw15_LeasePeeks_sig.ps [23, 3, 24, 25, 4, 3] args.toList ds p (by kernel_rfl) hA
    (fun j t v h h' => hval j t v (by rw [← Array.getElem?_toList, params]; exact h) (by rw [← Array.getElem?_toList]; exact h'))
  have hl := trod_len hA
  have hF : (bodegalaw15_LeasePeeks_te 2000).F s = some (true, ()) := peeks_true s.1 s.2.1 s.2.2.1 s.2.2.2.1 s.2.2.2.2.1 s.2.2.2.2.2.1 (fun p hp => wf_u64 ((k4.2.2.1.2 p hp).2.2.2.2.2.1)) (fun a ha => wf_u64 ((k4.2.2.2.1.2 a ha).2.2.2.1))
  have key := call_law (bodegalaw15_LeasePeeks_ok 2000) k1 k2 k3 hF rfl rfl
  have ea : args.toList.toArray = args := by simp
  rw [ea] at key
  refine key.mono fun e W' ⟨he, bel⟩ => ?_
  subst he
  have hB := row_back (Ts := [23, 3, 24, 25, 4, 3]) laidOut bel (by kernel_rfl) hA
  match ds, hl with
  | [d0, d1, d2, d3, d4, d5], _ => exact ⟨_, rfl, _, _, _, [], _, [], hW', trodAll_mk1 (shut_bool Tryz.underlying4 _), params ▸ hB, rfl, bel.frame _, fun h => by cases h⟩
theorem over : Rows.leasePeeksRow.holds Tryz.pinned (OpenSpec.ofChange Rows.leasePeeksSpec) :=
  OpenClaim.holds_of_wide 6 Tryz.f6 rfl rfl rfl rfl rfl rfl rfl ⟨rfl, rfl, rfl, rfl, rfl⟩ rfl rfl rfl rfl rfl (by kernel_rfl) Tryz.func6 (by kernel_rfl)
    (of_decide_eq_true (by kernel_rfl)) (by unfold Func.isWrapper; first | (rw [if_pos (by decide +kernel)]; kernel_rfl) | (rw [if_neg (by decide +kernel)]; exact ⟨rfl, rfl⟩))
    (fun os started H enc _ => lifted os started H enc)
end Go.Proofs.YtkgjdglkkoabmaaGreat.leasePeeks
namespace Go.Proofs.YtkgjdglkkoabmaaGreat
theorem leasePeeks_holds : Rows.LeasePeeksSaid := leasePeeks.over
#print axioms leasePeeks_holds
end Go.Proofs.YtkgjdglkkoabmaaGreat
