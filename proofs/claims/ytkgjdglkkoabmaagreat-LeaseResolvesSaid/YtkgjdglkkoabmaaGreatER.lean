import Derived.Test.YtkgjdglkkoabmaaGreatD
import Derived.Test.YtkgjdglkkoabmaaGreatKR

namespace Go.Proofs.YtkgjdglkkoabmaaGreat.N
open Go.VL

theorem rawresolve_ok (k : Nat) (r : TRaw) (nodes : Int) (hn0 : 0 ≤ nodes) (hn : nodes ≤ 5) (hk : 2000 ≤ k) : Ok (bodegalaw15_Raw_resolve k r nodes) (fun r => r.1.2.2.1.2.1.length ≤ 5) := by
  unfold bodegalaw15_Raw_resolve
  refine Ok.bind (pick_ok k _ 6 (by omega) (by omega)) fun a ha => ?_
  refine Ok.bind (pick_ok k _ 9 (by omega) (by omega)) fun b hb => ?_
  refine Ok.bind (rawview_ok k r nodes hn0 hn hk) fun d hd => ?_
  refine Ok.bind (pick_ok k _ 9 (by omega) (by omega)) fun e he => ?_
  refine Ok.ite (fun _ => Ok.pure hd) fun _ => Ok.ite (fun _ => Ok.pure hd) fun _ => Ok.pure hd

/-! ### Resolve -/
theorem resS_nil (j : TResolveJob) : GB (resS j []).1 ∧ (resS j []).2.2.1 = false := by
  unfold resS
  split
  · exact ⟨gb_nil, rfl⟩
  · split
    · exact ⟨gb_nil, rfl⟩
    · split
      · exact ⟨gb_nil, rfl⟩
      · exact ⟨rd_good _ _ 1 (by omega) (by omega) (by omega) (by omega) (by omega), rfl⟩
theorem resS_over (j : TResolveJob) (got : List (List TClocksOutcome)) (hg : got ≠ []) : (resS j got).1 = [] ∧ (resS j got).2.2.2 = true := by
  unfold resS
  split
  · exact ⟨rfl, rfl⟩
  · split
    · exact ⟨rfl, rfl⟩
    · split
      · exact ⟨rfl, rfl⟩
      · have := rdE_over (rd j.2.2.1 (32 + j.1) 1) got hg
        unfold resT
        cases h : rdE (rd j.2.2.1 (32 + j.1) 1) got with
        | ask => exact absurd h this
        | bad e => exact ⟨rfl, rfl⟩
        | good w => exact ⟨rfl, rfl⟩

theorem resolves_true (r : TRaw) (nodes : Int) (world : List TPoke) (alter : List TAlter) (more : Bool) (hw : ∀ p ∈ world, wordOk p.2.2.2.2.2.1) (ha : ∀ a ∈ alter, wordOk a.2.2.2.1) :
    bodegalaw15_LeaseResolves 2000 r nodes world alter more = some (true, ()) := by
  apply Ok.true
  unfold bodegalaw15_LeaseResolves
  refine Ok.ite (fun _ => Ok.pure rfl) fun hc => ?_
  rw [bif_or_nn] at hc
  simp only [decide_eq_false_iff_not] at hc
  have hk : 2000 ≤ 2000 := Nat.le_refl _
  refine Ok.bind (pick_ok 2000 _ 5 (by omega) (by omega)) fun r1 h1 => ?_
  obtain ⟨N, hN0, hN5, hN⟩ := nodes_in h1
  simp only [hN]
  refine Ok.bind (rawresolve_ok 2000 r (N : Int) (by omega) (by omega) hk) ?_
  rintro ⟨j, ⟨⟩⟩ hj
  simp only at hj
  obtain ⟨gb, hnil⟩ := resS_nil j
  refine Ok.eqb (resolve_eq 2000 j [] hk hj) ?_
  refine Ok.eqb (rresolve_eq 2000 j [] hk hj) ?_
  have hb : ∀ b : Bool, (b == b) = true := by decide
  simp only [hb, Bool.not_true, Bool.not_false, cond_true, cond_false]
  refine Ok.eqb (same_refl 2000 _ gb hk) ?_
  simp only [decide_true, Bool.not_true, Bool.not_false, cond_true, cond_false, hnil]
  refine Ok.eqb awake_eq ?_
  simp only [Bool.not_true, cond_false]
  refine Ok.bind (replies_ok 2000 N _ world alter more hN0 hN5 gb ⟨by omega, hw⟩ ⟨by omega, ha⟩ hk) ?_
  rintro ⟨got, ⟨⟩⟩ ⟨hg, _⟩
  simp only at hg
  obtain ⟨o1, o2⟩ := resS_over j got hg
  refine Ok.eqb (resolve_eq 2000 j got hk hj) ?_
  refine Ok.eqb (rresolve_eq 2000 j got hk hj) ?_
  refine Ok.pure ?_
  simp [o1, o2]

end Go.Proofs.YtkgjdglkkoabmaaGreat.N
