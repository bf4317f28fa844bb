import Derived.Test.YtkgjdglkkoabmaaGreatD
import Derived.Test.YtkgjdglkkoabmaaGreatKP

namespace Go.Proofs.YtkgjdglkkoabmaaGreat.N
open Go.VL

/-! ### Peek -/
theorem pekS_nil (v : TView) : GB (pekS v []).1 ∧ (pekS v []).2.2.1 = [] := by
  unfold pekS
  split
  · exact ⟨gb_nil, rfl⟩
  · exact ⟨rd_good v _ 6 (by omega) (by omega) (by omega) (by omega) (by omega), rfl⟩
theorem pekS_over (v : TView) (got : List (List TClocksOutcome)) (hg : got ≠ []) : (pekS v got).1 = [] ∧ (pekS v got).2.2.2 = true ∧ (pekS v got).2.2.1.length ≤ 8 := by
  unfold pekS
  split
  · exact ⟨rfl, rfl, by simp⟩
  · have := rdE_over (rd v 40 6) got hg
    unfold pkS
    cases h : rdE (rd v 40 6) got with
    | ask => exact absurd h this
    | bad e => exact ⟨rfl, rfl, by simp⟩
    | good w =>
      obtain ⟨_, _, _, _, _, _, hl⟩ := rdE_good h
      exact ⟨rfl, rfl, by simp only [List.length_map]; omega⟩

theorem leases_refl (k : Nat) (a : List THolding) (hk : a.length < k) (hl : a.length ≤ 1000) : bodegalaw15_sameLeases k a a = some (true, ()) := by
  have L : Ok (bodegalaw15_sameLeases_L1_it k a a 0) (fun r => r = Sum.inr ()) := by
    refine Ok.iter a.length (fun i s => s = (a, a, (i : Int), ())) hk rfl ?_
    rintro i s hi rfl
    simp only [bodegalaw15_sameLeases_L1, nx (show i < 2000 by omega)]
    refine Ok.ite (fun hc => ?_) fun hc => Ok.out rfl
    have hc : i < a.length := by simp at hc; omega
    refine Ok.grd (inb hc) ?_
    refine Ok.grd (inb hc) ?_
    refine Ok.grd (by rw [inb hc]; rfl) ?_
    refine Ok.grd (by rw [inb hc]; rfl) ?_
    refine Ok.els (by simp) ?_
    exact Ok.go ⟨hc, rfl⟩
  obtain ⟨r, h1, rfl⟩ := L
  unfold bodegalaw15_sameLeases
  rw [h1]
  simp

theorem gotOk_nil : gotOk [] := fun _ h => by simp at h

theorem peeks_true (r : TRaw) (nodes : Int) (world : List TPoke) (alter : List TAlter) (more : Bool) (now : Int) (hw : ∀ p ∈ world, wordOk p.2.2.2.2.2.1) (ha : ∀ a ∈ alter, wordOk a.2.2.2.1) :
    bodegalaw15_LeasePeeks 2000 r nodes world alter more now = some (true, ()) := by
  apply Ok.true
  unfold bodegalaw15_LeasePeeks
  refine Ok.ite (fun _ => Ok.pure rfl) fun hc => ?_
  rw [bif_or_nn] at hc
  simp only [decide_eq_false_iff_not] at hc
  have hk : 2000 ≤ 2000 := Nat.le_refl _
  refine Ok.bind (pick_ok 2000 _ 5 (by omega) (by omega)) fun r1 h1 => ?_
  obtain ⟨N, hN0, hN5, hN⟩ := nodes_in h1
  simp only [hN]
  refine Ok.bind (rawview_ok 2000 r (N : Int) (by omega) (by omega) hk) ?_
  rintro ⟨v, ⟨⟩⟩ hv
  simp only at hv
  obtain ⟨gb, hnil⟩ := pekS_nil v
  refine Ok.eqb (peek_eq 2000 v [] hk hv gotOk_nil) ?_
  refine Ok.eqb (rpeek_eq 2000 v [] hk hv gotOk_nil) ?_
  have hb : ∀ b : Bool, (b == b) = true := by decide
  simp only [hb, Bool.not_true, Bool.not_false, cond_true, cond_false]
  refine Ok.eqb (same_refl 2000 _ gb hk) ?_
  simp only [decide_true, Bool.not_true, Bool.not_false, cond_true, cond_false, hnil, List.length_nil, Int.natCast_zero]
  refine Ok.eqb awake_eq ?_
  simp only [Bool.not_true, cond_false]
  refine Ok.bind (replies_ok 2000 N _ world alter more hN0 hN5 gb ⟨by omega, hw⟩ ⟨by omega, ha⟩ hk) ?_
  rintro ⟨got, ⟨⟩⟩ ⟨hg, hgo⟩
  simp only at hg hgo
  obtain ⟨o1, o2, o3⟩ := pekS_over v got hg
  refine Ok.eqb (peek_eq 2000 v got hk hv hgo) ?_
  refine Ok.eqb (rpeek_eq 2000 v got hk hv hgo) ?_
  simp only [o1, o2, decide_true, cond_true, cond_false, Bool.not_true, Bool.not_false, List.length_nil, Int.natCast_zero]
  refine Ok.eqb (leases_refl 2000 _ (by omega) (by omega)) ?_
  simp only [Bool.not_true, cond_false, lease_Expired, bodegaref9_Expired, Option.bind_some]
  exact Ok.pure (hb _)

end Go.Proofs.YtkgjdglkkoabmaaGreat.N
