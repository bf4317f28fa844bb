import Derived.Test.YtkgjdglkkoabmaaGreatKC

namespace Go.Proofs.YtkgjdglkkoabmaaGreat.N
open Go.VL

/-! ### Resolve -/
def resT (b : List TVerb) (got : List (List TClocksOutcome)) (seq : Int) : List TVerb × Int × Bool × Bool :=
  match rdE b got with
  | .ask => (b, 0, false, false)
  | .bad e => ([], e, false, true)
  | .good w => ([], 0, decide (IntKind.u64.wrap seq ≤ w.getD 0 0), true)

theorem resolve_rd (k : Nat) (v : TView) (a : Int) (got : List (List TClocksOutcome)) (j : TResolveJob) (hk : 2000 ≤ k) (hb : GB (rd v a 1)) (hv : v.2.1 ≠ []) :
    lease_readOnce_2_l0 k v a 1 got j = some ((resT (rd v a 1) got j.2.1).1, ((resT (rd v a 1) got j.2.1).2.1, (resT (rd v a 1) got j.2.1).2.2.1, ()), (resT (rd v a 1) got j.2.1).2.2.2, j, ()) := by
  obtain ⟨t, ht, hm⟩ := talk_rd k v a 1 got hk hb
  unfold lease_readOnce_2_l0 resT
  rw [prim_eq k v hv]
  simp only [Option.bind_some]
  rw [adr_eq k _ _ _ (by simp)]
  simp only [Option.bind_some]
  rw [show [adr v (v.2.1.getD 0 ((0:Int), (0:Int), false, ())) ((1:Int), (0:Int), a, (1:Int), (0:Int), (0:Int), ([] : (List Int)), (0:Int), (0:Int), ())] = rd v a 1 from rfl, ht]
  cases h : rdE (rd v a 1) got with
  | ask =>
    rw [h] at hm
    simp [hm.1, hm.2]
  | bad e =>
    rw [h] at hm
    have := rdE_bad h
    simp [hm.1, hm.2, this, lease_Resolve_1]
  | good w =>
    rw [h] at hm
    obtain ⟨g, _, _, _, _, _, hl⟩ := rdE_good h
    obtain ⟨h1, h2, h3, h4⟩ := hm
    have hp : (decide ((0:Int) ≤ (0:Int)) && decide ((0:Int) < (w.length : Int))) = true := inb (show 0 < w.length by omega)
    simp only [Option.bind_some, h1, h2, h3, h4, lease_Resolve_1, hp, decide_true, Bool.not_true, cond_false, cond_true, Bool.true_or]
    rfl

def resS (j : TResolveJob) (got : List (List TClocksOutcome)) : List TVerb × Int × Bool × Bool :=
  if ¬ (0 ≤ j.1 ∧ j.1 < 6) then ([], 1, false, true)
  else if j.2.1 < 1 ∨ 1073741824 ≤ j.2.1 then ([], 2, false, true)
  else if ¬ vv j.2.2.1 5 = 0 then ([], vv j.2.2.1 5, false, true)
  else resT (rd j.2.2.1 (32 + j.1) 1) got j.2.1

theorem client_t {c : Int} (h : 0 ≤ c ∧ c < 6) : (decide (0 ≤ c) && decide (c < 6)) = true := by simp [h]
theorem client_f {c : Int} (h : ¬ (0 ≤ c ∧ c < 6)) : (decide (0 ≤ c) && decide (c < 6)) = false := by
  rw [Bool.and_eq_false_iff]
  by_cases h' : 0 ≤ c
  · right; simp; omega
  · left; simp; omega

theorem resolve_eq (k : Nat) (j : TResolveJob) (got : List (List TClocksOutcome)) (hk : 2000 ≤ k) (hl : j.2.2.1.2.1.length ≤ 5) :
    lease_Resolve k j got = some ((resS j got).1, ((resS j got).2.1, (resS j got).2.2.1, ()), (resS j got).2.2.2, ()) := by
  unfold lease_Resolve resS
  simp only [valid_eq k j.2.2.1 5 (show j.2.2.1.2.1.length < k by omega) (by omega), Option.bind_some, lease_Resolve_J1, (client_eq k j.1).1]
  by_cases hc : 0 ≤ j.1 ∧ j.1 < 6
  · simp only [hc, and_self, not_true, if_false, Bool.not_true, cond_false, decide_true, Bool.and_self]
    by_cases hs : j.2.1 < 1 ∨ 1073741824 ≤ j.2.1
    · have : (bif decide (j.2.1 < 1) then true else decide (1073741824 ≤ j.2.1)) = true := by
        by_cases h1 : j.2.1 < 1
        · simp [h1]
        · simp [h1]; omega
      simp [this, hs]
    · have : (bif decide (j.2.1 < 1) then true else decide (1073741824 ≤ j.2.1)) = false := by
        have h1 : ¬ j.2.1 < 1 := by omega
        simp [h1]; omega
      simp only [this, hs, if_false, cond_false, Option.bind_some]
      by_cases hv : vv j.2.2.1 5 = 0
      · simp only [hv, decide_true, Bool.not_true, cond_false, not_true, if_false, (clock_at k j.1 hc.1 hc.2).1, Option.bind_some]
        rw [resolve_rd k j.2.2.1 _ got j hk (rd_good j.2.2.1 _ 1 (by omega) (by omega) (by omega) (by omega) (by omega)) (vv_ne hv)]
        rfl
      · simp [hv]
  · simp [client_f hc, hc]

theorem rresolve_eq (k : Nat) (j : TResolveJob) (got : List (List TClocksOutcome)) (hk : 2000 ≤ k) (hl : j.2.2.1.2.1.length ≤ 5) :
    bodegaref9_Resolve k j.1 j.2.1 j.2.2.1 got = some ((resS j got).1, (resS j got).2.1, (resS j got).2.2.1, (resS j got).2.2.2, ()) := by
  unfold bodegaref9_Resolve resS
  simp only [rvalid_eq k j.2.2.1 5 (show j.2.2.1.2.1.length < k by omega) (by omega), Option.bind_some, (client_eq k j.1).2]
  by_cases hc : 0 ≤ j.1 ∧ j.1 < 6
  · simp only [hc, and_self, not_true, if_false]
    by_cases hs : j.2.1 < 1 ∨ 1073741824 ≤ j.2.1
    · have : (bif decide (j.2.1 < 1) then true else decide (1073741824 ≤ j.2.1)) = true := by
        by_cases h1 : j.2.1 < 1
        · simp [h1]
        · simp [h1]; omega
      simp [this, hs]
    · have : (bif decide (j.2.1 < 1) then true else decide (1073741824 ≤ j.2.1)) = false := by
        have h1 : ¬ j.2.1 < 1 := by omega
        simp [h1]; omega
      simp only [this, hs, if_false, cond_false]
      by_cases hv : vv j.2.2.1 5 = 0
      · have hne := vv_ne hv
        have hpos : 0 < j.2.2.1.2.1.length := by cases h : j.2.2.1.2.1 with | nil => exact absurd h hne | cons => simp
        simp only [hv, decide_true, Bool.not_true, cond_false, not_true, if_false, (clock_at k j.1 hc.1 hc.2).2, Option.bind_some, rget_eq, show (decide ((0:Int) ≤ (0:Int)) && decide ((0:Int) < (j.2.2.1.2.1.length : Int))) = true from inb hpos, cond_true]
        rw [show ([(rd j.2.2.1 (32 + j.1) 1).getD 0 ((0:Int), (0:Int), (0:Int), (0:Int), (0:Int), (0:Int), ([] : (List Int)), (0:Int), (0:Int), ())] : List TVerb) = rd j.2.2.1 (32 + j.1) 1 from rfl]
        obtain ⟨t, ht, hm⟩ := single_rd k j.2.2.1 (32 + j.1) 1 got hk (rd_good j.2.2.1 _ 1 (by omega) (by omega) (by omega) (by omega) (by omega))
        rw [ht]
        unfold resT
        cases h : rdE (rd j.2.2.1 (32 + j.1) 1) got with
        | ask =>
          rw [h] at hm
          simp only at hm
          simp [hm]
        | bad e =>
          rw [h] at hm
          have := rdE_bad h
          rcases hm with ⟨h1, ⟨h2, rfl⟩ | ⟨h2, h3, h4⟩⟩
          · simp [h1, h2]
          · simp [h1, h2, h4, this]
        | good w =>
          rw [h] at hm
          obtain ⟨h1, h2, h3, h4, h5⟩ := hm
          obtain ⟨g, _, _, _, _, _, hl⟩ := rdE_good h
          have hp : (decide ((0:Int) ≤ (0:Int)) && decide ((0:Int) < (w.length : Int))) = true := inb (show 0 < w.length by omega)
          simp only [Option.bind_some, h1, h2, h3, h4, h5, hp, cond_false, cond_true, Bool.not_true, Bool.true_or, decide_true]
          rfl
      · simp [hv]
  · simp [client_f hc, hc]

end Go.Proofs.YtkgjdglkkoabmaaGreat.N
