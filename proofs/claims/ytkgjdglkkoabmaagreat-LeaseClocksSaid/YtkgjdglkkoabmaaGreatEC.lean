import Derived.Test.YtkgjdglkkoabmaaGreatD
import Derived.Test.YtkgjdglkkoabmaaGreatKC

namespace Go.Proofs.YtkgjdglkkoabmaaGreat.N
open Go.VL

/-! ### Clocks -/
theorem clS_ask (b : List TVerb) (hb : GB b) : GB (clS b []).1 ∧ (clS b []).2.2.1 = [] := ⟨hb, rfl⟩
theorem cloS_nil (v : TView) : GB (cloS v []).1 ∧ (cloS v []).2.2.1 = [] := by
  unfold cloS
  split
  · exact ⟨gb_nil, rfl⟩
  · exact ⟨rd_good v _ 8 (by omega) (by omega) (by omega) (by omega) (by omega), rfl⟩
theorem cloS_over (v : TView) (got : List (List TClocksOutcome)) (hg : got ≠ []) : (cloS v got).1 = [] ∧ (cloS v got).2.2.2 = true ∧ (cloS v got).2.2.1.length ≤ 8 := by
  unfold cloS
  split
  · exact ⟨rfl, rfl, by simp⟩
  · have := rdE_over (rd v 32 8) got hg
    unfold clS
    cases h : rdE (rd v 32 8) got with
    | ask => exact absurd h this
    | bad e => exact ⟨rfl, rfl, by simp⟩
    | good w =>
      obtain ⟨_, _, _, _, _, _, hl⟩ := rdE_good h
      exact ⟨rfl, rfl, by simp only; omega⟩

theorem clocks_true (r : TRaw) (nodes : Int) (world : List TPoke) (alter : List TAlter) (more : Bool) (hw : ∀ p ∈ world, wordOk p.2.2.2.2.2.1) (ha : ∀ a ∈ alter, wordOk a.2.2.2.1) :
    bodegalaw15_LeaseClocks 2000 r nodes world alter more = some (true, ()) := by
  apply Ok.true
  unfold bodegalaw15_LeaseClocks
  refine Ok.ite (fun _ => Ok.pure rfl) fun hc => ?_
  rw [bif_or_nn] at hc
  simp only [decide_eq_false_iff_not] at hc
  have hk : 2000 ≤ 2000 := Nat.le_refl _
  refine Ok.bind (pick_ok 2000 _ 5 (by omega) (by omega)) fun r1 h1 => ?_
  obtain ⟨N, hN0, hN5, hN⟩ := nodes_in h1
  simp only [hN]
  refine Ok.bind (rawview_ok 2000 r (N : Int) (by omega) (by omega) hk) ?_
  rintro ⟨v, ⟨⟩⟩ hv
  simp only at hv
  obtain ⟨gb, hnil⟩ := cloS_nil v
  refine Ok.eqb (clocks_eq 2000 v [] hk hv) ?_
  refine Ok.eqb (rclocks_eq 2000 v [] hk hv) ?_
  have hb : ∀ b : Bool, (b == b) = true := by decide
  simp only [hb, Bool.not_true, Bool.not_false, cond_true, cond_false]
  refine Ok.eqb (same_refl 2000 _ gb hk) ?_
  simp only [decide_true, Bool.not_true, Bool.not_false, cond_true, cond_false, hnil, List.length_nil, Int.natCast_zero]
  refine Ok.eqb awake_eq ?_
  simp only [Bool.not_true, cond_false]
  refine Ok.bind (replies_ok 2000 N _ world alter more hN0 hN5 gb ⟨by omega, hw⟩ ⟨by omega, ha⟩ hk) ?_
  rintro ⟨got, ⟨⟩⟩ ⟨hg, _⟩
  simp only at hg
  obtain ⟨o1, o2, o3⟩ := cloS_over v got hg
  refine Ok.eqb (clocks_eq 2000 v got hk hv) ?_
  refine Ok.eqb (rclocks_eq 2000 v got hk hv) ?_
  simp only [o1, o2, decide_true, cond_true, List.length_nil, Int.natCast_zero]
  refine Ok.eqb (words_refl 2000 _ (by omega) (by omega)) ?_
  exact Ok.pure rfl

end Go.Proofs.YtkgjdglkkoabmaaGreat.N
