import Derived.Test.YtkgjdglkkoabmaaGreatK
import Derived.Test.YtkgjdglkkoabmaaGreatN4

namespace Go.Proofs.YtkgjdglkkoabmaaGreat.N
open Go.VL

/-! ### One read -/
/-- how a batch of one read ends: asked again, failed with a code, or with the words -/
inductive RdE where
  | ask | bad (e : Int) | good (w : List Int)

def rdE (b : List TVerb) (got : List (List TClocksOutcome)) : RdE :=
  match got with
  | [] => .ask
  | g :: rest => if fitA b g && rest.isEmpty then (if firstC g = 0 then .good (g.getD 0 ((0:Int), ([] : (List Int)), ())).2.1 else .bad (firstC g)) else .bad 6

theorem rd_ne (v : TView) (a n : Int) : rd v a n ≠ [] := by simp [rd]
theorem rd_len (v : TView) (a n : Int) : (rd v a n).length = 1 := by simp [rd]
theorem rdE_good {v : TView} {a n : Int} {got : List (List TClocksOutcome)} {w : List Int} (h : rdE (rd v a n) got = .good w) : ∃ g, got = [g] ∧ g.length = 1 ∧ fitA (rd v a n) g = true ∧ firstC g = 0 ∧ w = (g.getD 0 ((0:Int), ([] : (List Int)), ())).2.1 ∧ (w.length : Int) = n := by
  unfold rdE at h
  cases got with
  | nil => cases h
  | cons g rest =>
    simp only at h
    split at h
    · rename_i h1
      simp only [Bool.and_eq_true, List.isEmpty_iff] at h1
      obtain ⟨h1, rfl⟩ := h1
      split at h
      · rename_i h2
        injection h with h
        have hl := fitA_len h1
        rw [rd_len] at hl
        refine ⟨g, rfl, hl.symm, h1, h2, h.symm, ?_⟩
        have h3 := fitA_at h1 (i := 0) (by rw [rd_len]; omega)
        have h4 := first_zero h2 (i := 0) (by omega)
        unfold fitB at h3
        rw [h4] at h3
        simp only [if_true, decide_eq_true_eq] at h3
        rw [← h, h3]
        rfl
      · cases h
    · cases h
theorem rdE_bad {b : List TVerb} {got : List (List TClocksOutcome)} {e : Int} (h : rdE b got = .bad e) : e ≠ 0 := by
  unfold rdE at h
  cases got with
  | nil => cases h
  | cons g rest =>
    simp only at h
    split at h
    · split at h
      · cases h
      · rename_i h2
        injection h with h
        omega
    · injection h with h
      omega

/-- the program's side: what talkOnce and the tests after it come to -/
theorem talk_rd (k : Nat) (v : TView) (a n : Int) (got : List (List TClocksOutcome)) (hk : 2000 ≤ k) (hb : GB (rd v a n)) :
    ∃ t : List TVerb × List TClocksOutcome × Int × Bool × Unit, lease_talkOnce k (rd v a n) got = some t ∧
      match rdE (rd v a n) got with
      | .ask => t.1 = rd v a n ∧ t.2.2.2.1 = false
      | .bad e => t.2.2.2.1 = true ∧ t.2.2.1 = e
      | .good w => t.2.2.2.1 = true ∧ t.2.2.1 = 0 ∧ t.2.1.length = 1 ∧ (t.2.1.getD 0 ((0:Int), ([] : (List Int)), ())).2.1 = w := by
  refine ⟨_, talk_eq k _ got hb.kv (by rw [rd_len]; omega) (by rw [rd_len]; omega) (rd_ne v a n), ?_⟩
  cases h : rdE (rd v a n) got with
  | ask =>
    cases got with
    | nil => exact ⟨rfl, rfl⟩
    | cons g rest => unfold rdE at h; simp only at h; (split at h <;> first | cases h | (split at h <;> cases h))
  | bad e =>
    cases got with
    | nil => cases h
    | cons g rest =>
      unfold rdE at h
      simp only at h
      simp only [tk]
      split at h
      · rename_i h1
        simp only [h1, if_true]
        split at h
        · cases h
        · injection h with h
          exact ⟨trivial, h⟩
      · rename_i h1
        injection h with h
        simp only [h1]
        exact ⟨rfl, h⟩
  | good w =>
    obtain ⟨g, rfl, hl, hf, h0, hw, _⟩ := rdE_good h
    simp only [tk, hf, List.isEmpty_nil, Bool.and_self, if_true]
    exact ⟨trivial, h0, hl, hw.symm⟩

theorem single_rd (k : Nat) (v : TView) (a n : Int) (got : List (List TClocksOutcome)) (hk : 2000 ≤ k) (hb : GB (rd v a n)) :
    ∃ t : List TClocksOutcome × Bool × Bool × Unit, bodegaref9_single k (rd v a n) got = some t ∧
      match rdE (rd v a n) got with
      | .ask => t.2.1 = true
      | .bad e => t.2.1 = false ∧ ((t.2.2.1 = false ∧ e = 6) ∨ (t.2.2.1 = true ∧ t.1.length = 1 ∧ bodegaref4_First k t.1 = some (e, ())))
      | .good w => t.2.1 = false ∧ t.2.2.1 = true ∧ t.1.length = 1 ∧ bodegaref4_First k t.1 = some (0, ()) ∧ (t.1.getD 0 ((0:Int), ([] : (List Int)), ())).2.1 = w := by
  refine ⟨_, single_eq k _ got hb.kv (by rw [rd_len]; omega) (by rw [rd_len]; omega) (rd_ne v a n), ?_⟩
  cases h : rdE (rd v a n) got with
  | ask =>
    cases got with
    | nil => rfl
    | cons g rest => unfold rdE at h; simp only at h; (split at h <;> first | cases h | (split at h <;> cases h))
  | bad e =>
    cases got with
    | nil => cases h
    | cons g rest =>
      unfold rdE at h
      simp only at h
      simp only [sg]
      split at h
      · rename_i h1
        simp only [Bool.and_eq_true] at h1
        have hl := fitA_len h1.1
        rw [rd_len] at hl
        simp only [h1.1, h1.2, if_true]
        split at h
        · cases h
        · injection h with h
          exact ⟨trivial, .inr ⟨trivial, hl.symm, by rw [← h]; exact rfirst_eq k g (by omega) (by omega)⟩⟩
      · rename_i h1
        injection h with h
        cases hf : fitA (rd v a n) g with
        | false => exact ⟨rfl, .inl ⟨rfl, h.symm⟩⟩
        | true =>
          simp only [hf, Bool.true_and, Bool.not_eq_true] at h1
          simp only [if_true, h1]
          exact ⟨trivial, .inl ⟨trivial, h.symm⟩⟩
  | good w =>
    obtain ⟨g, rfl, hl, hf, h0, hw, _⟩ := rdE_good h
    simp only [sg, hf, List.isEmpty_nil, if_true]
    exact ⟨trivial, trivial, hl, by rw [rfirst_eq k g (by omega) (by omega), h0], hw.symm⟩

theorem primary_eq (k : Nat) (v : TView) : view_Primary k v = some (v.2.1.getD 0 ((0:Int), (0:Int), false, ()), !v.2.1.isEmpty, ()) := by
  unfold view_Primary
  cases h : v.2.1 with
  | nil => simp
  | cons m ms =>
    have h1 : ¬ (((m :: ms).length : Int) = 0) := by rw [List.length_cons]; omega
    have h2 : (0:Int) < (((m :: ms).length : Nat) : Int) := by rw [List.length_cons]; omega
    simp only [h1, h2, decide_true, decide_false, cond_true, cond_false, Bool.and_self, Int.le_refl]
    rfl

theorem prim_eq (k : Nat) (v : TView) (h : v.2.1 ≠ []) : view_Primary k v = some (v.2.1.getD 0 ((0:Int), (0:Int), false, ()), true, ()) := by
  rw [primary_eq]
  cases hv : v.2.1 with
  | nil => exact absurd hv h
  | cons x xs => rfl

/-- what a read says: asks, code, words, over -/
def clS (b : List TVerb) (got : List (List TClocksOutcome)) : List TVerb × Int × List Int × Bool :=
  match rdE b got with
  | .ask => (b, 0, [], false)
  | .bad e => ([], e, [], true)
  | .good w => ([], 0, w, true)

theorem clocks_rd (k : Nat) (v : TView) (a n : Int) (got : List (List TClocksOutcome)) (hk : 2000 ≤ k) (hb : GB (rd v a n)) (hv : v.2.1 ≠ []) (hn : n ≤ 1000) :
    lease_readOnce_1 k v a n got = some ((clS (rd v a n) got).1, ((clS (rd v a n) got).2.1, (clS (rd v a n) got).2.2.1, ()), (clS (rd v a n) got).2.2.2, ()) := by
  obtain ⟨t, ht, hm⟩ := talk_rd k v a n got hk hb
  unfold lease_readOnce_1 clS
  rw [prim_eq k v hv]
  simp only [Option.bind_some]
  rw [adr_eq k _ _ _ (by simp)]
  simp only [Option.bind_some]
  rw [show [adr v (v.2.1.getD 0 ((0:Int), (0:Int), false, ())) ((1:Int), (0:Int), a, n, (0:Int), (0:Int), ([] : (List Int)), (0:Int), (0:Int), ())] = rd v a n from rfl, ht]
  have c0 : slices_Clone k [] = some ([], ()) := clone_eq k [] (by simp)
  cases h : rdE (rd v a n) got with
  | ask =>
    rw [h] at hm
    simp [hm.1, hm.2]
  | bad e =>
    rw [h] at hm
    have := rdE_bad h
    simp [hm.1, hm.2, this, lease_Clocks_1, c0]
  | good w =>
    rw [h] at hm
    obtain ⟨g, _, _, _, _, _, hl⟩ := rdE_good h
    have c1 : slices_Clone k w = some (w, ()) := clone_eq k w (by omega)
    obtain ⟨h1, h2, h3, h4⟩ := hm
    simp only [Option.bind_some, h1, h2, h3, h4, lease_Clocks_1, c1, decide_true, Bool.not_true, cond_false]
    rfl

/-- what the clocks say -/
def cloS (v : TView) (got : List (List TClocksOutcome)) : List TVerb × Int × List Int × Bool :=
  if ¬ vv v 5 = 0 then ([], vv v 5, [], true) else clS (rd v 32 8) got

theorem clocks_eq (k : Nat) (v : TView) (got : List (List TClocksOutcome)) (hk : 2000 ≤ k) (hl : v.2.1.length ≤ 5) :
    lease_Clocks k (v, ()) got = some ((cloS v got).1, ((cloS v got).2.1, (cloS v got).2.2.1, ()), (cloS v got).2.2.2, ()) := by
  unfold lease_Clocks cloS
  simp only [valid_eq k v 5 (show v.2.1.length < k by omega) (by omega), Option.bind_some]
  by_cases hv : vv v 5 = 0
  · simp only [hv, decide_true, Bool.not_true, cond_false, not_true, if_false, (clock_at k 0 (by omega) (by omega)).1, Option.bind_some]
    rw [clocks_rd k v _ 8 got hk (rd_good v _ 8 (by omega) (by omega) (by omega) (by omega) (by omega)) (vv_ne hv) (by omega)]
    rfl
  · simp [hv]

theorem rget_eq (k : Nat) (v : TView) (a n : Int) : bodegaref9_get k v (v.2.1.getD 0 ((0:Int), (0:Int), false, ())) a n = some ((rd v a n).getD 0 ((0:Int), (0:Int), (0:Int), (0:Int), (0:Int), (0:Int), ([] : (List Int)), (0:Int), (0:Int), ()), ()) := by
  unfold bodegaref9_get
  rw [radr_eq]
  rfl

theorem rclocks_eq (k : Nat) (v : TView) (got : List (List TClocksOutcome)) (hk : 2000 ≤ k) (hl : v.2.1.length ≤ 5) :
    bodegaref9_Clocks k v got = some ((cloS v got).1, (cloS v got).2.1, (cloS v got).2.2.1, (cloS v got).2.2.2, ()) := by
  unfold bodegaref9_Clocks cloS
  simp only [rvalid_eq k v 5 (show v.2.1.length < k by omega) (by omega), Option.bind_some]
  by_cases hv : vv v 5 = 0
  · have hne := vv_ne hv
    have hpos : 0 < v.2.1.length := by cases h : v.2.1 with | nil => exact absurd h hne | cons => simp
    simp only [hv, decide_true, Bool.not_true, cond_false, not_true, if_false, (clock_at k 0 (by omega) (by omega)).2, Option.bind_some, rget_eq, show (decide ((0:Int) ≤ (0:Int)) && decide ((0:Int) < (v.2.1.length : Int))) = true from inb hpos, cond_true]
    rw [show ([(rd v (32 + 0) 8).getD 0 ((0:Int), (0:Int), (0:Int), (0:Int), (0:Int), (0:Int), ([] : (List Int)), (0:Int), (0:Int), ())] : List TVerb) = rd v 32 8 from rfl]
    obtain ⟨t, ht, hm⟩ := single_rd k v 32 8 got hk (rd_good v _ 8 (by omega) (by omega) (by omega) (by omega) (by omega))
    rw [ht]
    unfold clS
    cases h : rdE (rd v 32 8) got with
    | ask =>
      rw [h] at hm
      simp only at hm
      simp [hm]
    | bad e =>
      rw [h] at hm
      have := rdE_bad h
      rcases hm with ⟨h1, ⟨h2, rfl⟩ | ⟨h2, h3, h4⟩⟩
      · simp [h1, h2]
      · simp [h1, h2, h4, this]
    | good w =>
      rw [h] at hm
      obtain ⟨h1, h2, h3, h4, h5⟩ := hm
      simp only [Option.bind_some, h1, h2, h3, h4, h5, cond_false, Bool.not_true, decide_true]
      rfl
  · simp [hv]

theorem rdE_over (b : List TVerb) (got : List (List TClocksOutcome)) (hg : got ≠ []) : rdE b got ≠ .ask := by
  cases got with
  | nil => exact absurd rfl hg
  | cons g rest =>
    unfold rdE
    simp only
    intro h
    split at h
    · split at h <;> cases h
    · cases h


end Go.Proofs.YtkgjdglkkoabmaaGreat.N
