import Derived.Test.YtjbnedjlcpdekaaV3
import Derived.Test.YtjbnedjlcpdekaaN4

namespace Go.Proofs.Ytjbnedjlcpdekaa.N
open Go.VL


theorem pick_eq (k : Nat) (n t : Int) (ht : t ≤ 4611686018427387904) : bodegahand_Pick k n t = some (if t < 1 then 0 else n % t, ()) := by
  unfold bodegahand_Pick
  by_cases h : t < 1
  · simp [h]
  · have h0 : ¬ t = 0 := by omega
    have h1 : Int.tmod n t < t := Int.tmod_lt_of_pos n (by omega)
    have h2 : -t < Int.tmod n t := by
      have := Int.tmod_lt_of_pos (-n) (show 0 < t by omega)
      rw [Int.neg_tmod] at this
      omega
    have h3 : IntKind.i64.wrap (Int.tmod n t + t) = Int.tmod n t + t := wrap_i64 (by omega) (by omega)
    have h4 : (Int.tmod n t + t).tmod t = n % t := by
      rw [Int.tmod_eq_emod_of_nonneg (by omega)]
      have : Int.tmod n t + t = n + t * (1 - n.tdiv t) := by
        rw [Int.tmod_def, Int.mul_sub, Int.mul_one]
        omega
      rw [this, Int.add_mul_emod_self_left]
    simp [h, h0, h3, h4]

theorem pick_pos (k : Nat) (n t : Int) (h1 : 1 ≤ t) (ht : t ≤ 4611686018427387904) : bodegahand_Pick k n t = some (n % t, ()) := by
  rw [pick_eq k n t ht, if_neg (by omega)]

/-! ### What is valid -/
def bad1 (nodes : Int) (ms : List TMember) (i : Nat) : Bool :=
  decide ((ms.getD i ((0:Int), (0:Int), false, ())).1 < 0) || decide (nodes ≤ (ms.getD i ((0:Int), (0:Int), false, ())).1) || (decide (0 < i) && decide ((ms.getD i ((0:Int), (0:Int), false, ())).1 ≤ (ms.getD (i - 1) ((0:Int), (0:Int), false, ())).1))
def bad2 (ms : List TMember) (i : Nat) : Bool := decide ((ms.getD i ((0:Int), (0:Int), false, ())).2.1 < 1) || decide (31 < (ms.getD i ((0:Int), (0:Int), false, ())).2.1)

def vv (v : TView) (nodes : Int) : Int :=
  if nodes < 1 ∨ 5 < nodes then 1
  else if v.1 < 0 ∨ 16 ≤ v.1 then 2
  else if (List.range v.2.1.length).any (bad1 nodes v.2.1) then 1
  else if v.2.1 = [] then 1
  else if (List.range v.2.1.length).any (bad2 v.2.1) then 2
  else if v.2.1.any (·.2.2.1) then 0 else 13

theorem find_any (n : Nat) (p : Nat → Bool) : ((List.range n).find? p).isSome = (List.range n).any p := by
  rw [Bool.eq_iff_iff, List.find?_isSome, List.any_eq_true]

theorem getD_any {α : Type} (ms : List α) (d : α) (p : α → Bool) : ((List.range ms.length).any fun i => p (ms.getD i d)) = ms.any p := by
  rw [Bool.eq_iff_iff, List.any_eq_true, List.any_eq_true]
  constructor
  · rintro ⟨i, hi, h⟩
    rw [List.mem_range] at hi
    exact ⟨ms[i], List.getElem_mem hi, by rw [← h, getD_lt hi]⟩
  · rintro ⟨x, hx, h⟩
    obtain ⟨i, hi, rfl⟩ := List.getElem_of_mem hx
    exact ⟨i, List.mem_range.2 hi, by rw [getD_lt hi]; exact h⟩

theorem nx {i : Nat} (h : i < 2000) : IntKind.i64.wrap ((i : Int) + 1) = ((i + 1 : Nat) : Int) := by rw [wrap_i64 (by omega) (by omega)]; omega
theorem pv {i : Nat} (h : i < 2000) : IntKind.i64.wrap ((i : Int) - 1) = (i : Int) - 1 := wrap_i64 (by omega) (by omega)
theorem inb {i n : Nat} (h : i < n) : (decide ((0 : Int) ≤ (i : Int)) && decide ((i : Int) < (n : Int))) = true := by simp; omega

theorem isFull_any (k : Nat) (ms : List TMember) (hk : ms.length < k) (hl : ms.length ≤ 1000) : slices_ContainsFunc_isFull k ms = some (ms.any (·.2.2.1), ()) := by
  have L : slices_IndexFunc_isFull_L1_it k ms () (ms.length : Int) 0 = some (((List.range ms.length).find? (fun i => (ms.getD i ((0:Int), (0:Int), false, ())).2.2.1)).elim (Sum.inr ()) (fun i => Sum.inl ((i : Int), ()))) := by
    refine iterO_find (fun i => (ms, (), (ms.length : Int), (i : Int), ())) (fun i => (ms.getD i ((0:Int), (0:Int), false, ())).2.2.1) (fun i => Sum.inl ((i : Int), ())) (Sum.inr ()) ms.length ?_ ?_ k hk
    · intro i hi
      simp only [slices_IndexFunc_isFull_L1, view_isFull, nx (show i < 2000 by omega), Int.toNat_natCast, inb hi, cond_true, Option.bind_some]
      simp only [show (decide ((i : Int) < (ms.length : Int))) = true by simp; omega, cond_true]
      cases (ms.getD i ((0:Int), (0:Int), false, ())).2.2.1 <;> rfl
    · simp [slices_IndexFunc_isFull_L1]
  unfold slices_ContainsFunc_isFull slices_IndexFunc_isFull
  rw [L, ← getD_any ms ((0:Int), (0:Int), false, ()) (·.2.2.1), ← find_any]
  cases (List.range ms.length).find? (fun i => (ms.getD i ((0:Int), (0:Int), false, ())).2.2.1) with
  | none => rfl
  | some i => simp

theorem isNodes_eq (k : Nat) (n : Int) : view_isNodes k n = some (decide (1 ≤ n) && decide (n ≤ 5), ()) := by
  unfold view_isNodes
  by_cases h : 1 ≤ n <;> simp [h]

theorem valid_L1 (k : Nat) (nodes : Int) (v : TView) (hk : v.2.1.length < k) (hl : v.2.1.length ≤ 1000) :
    view_Valid_L1_it k nodes v v.2.1 (v.2.1.length : Int) 0 = some (((List.range v.2.1.length).find? (bad1 nodes v.2.1)).elim (Sum.inr (v, ())) (fun _ => Sum.inl (1, ()))) := by
  refine iterO_find (fun i => (nodes, v, v.2.1, (v.2.1.length : Int), (i : Int), ())) (bad1 nodes v.2.1) (fun i => Sum.inl (1, ())) (Sum.inr (v, ())) v.2.1.length ?_ ?_ k hk
  · intro i hi
    have h1 : (decide ((i : Int) < (v.2.1.length : Int))) = true := by simp; omega
    simp only [view_Valid_L1, nx (show i < 2000 by omega), pv (show i < 2000 by omega), Int.toNat_natCast, h1, cond_true, bad1]
    have h2 : ((i : Int) - 1).toNat = i - 1 := by omega
    rw [h2]
    by_cases h0 : 0 < i
    · have h3 : (decide ((0 : Int) ≤ (i : Int) - 1) && decide ((i : Int) - 1 < (v.2.1.length : Int))) = true := by simp; omega
      have h4 : (decide ((0 : Int) < (i : Int))) = true := by simp; omega
      simp only [h3, h4, h0, decide_true, Bool.true_or, Bool.true_and, cond_true]
      by_cases c1 : (v.2.1.getD i ((0:Int), (0:Int), false, ())).1 < 0 <;> by_cases c2 : nodes ≤ (v.2.1.getD i ((0:Int), (0:Int), false, ())).1 <;> by_cases c3 : (v.2.1.getD i ((0:Int), (0:Int), false, ())).1 ≤ (v.2.1.getD (i - 1) ((0:Int), (0:Int), false, ())).1 <;> simp [c1, c2, c3, -List.getD_eq_getElem?_getD]
    · have h4 : (decide ((0 : Int) < (i : Int))) = false := by simp; omega
      simp only [h4, h0, decide_false, Bool.false_and, Bool.not_false, Bool.or_true, cond_true, Bool.or_false, cond_false]
      by_cases c1 : (v.2.1.getD i ((0:Int), (0:Int), false, ())).1 < 0 <;> by_cases c2 : nodes ≤ (v.2.1.getD i ((0:Int), (0:Int), false, ())).1 <;> simp [c1, c2, -List.getD_eq_getElem?_getD]
  · simp [view_Valid_L1]

theorem valid_L2 (k : Nat) (v : TView) (hk : v.2.1.length < k) (hl : v.2.1.length ≤ 1000) :
    view_Valid_L2_it k v v.2.1 (v.2.1.length : Int) 0 = some (((List.range v.2.1.length).find? (bad2 v.2.1)).elim (Sum.inr (v, ())) (fun _ => Sum.inl (2, ()))) := by
  refine iterO_find (fun i => (v, v.2.1, (v.2.1.length : Int), (i : Int), ())) (bad2 v.2.1) (fun i => Sum.inl (2, ())) (Sum.inr (v, ())) v.2.1.length ?_ ?_ k hk
  · intro i hi
    have h1 : (decide ((i : Int) < (v.2.1.length : Int))) = true := by simp; omega
    simp only [view_Valid_L2, nx (show i < 2000 by omega), Int.toNat_natCast, h1, cond_true, bad2]
    by_cases c1 : (v.2.1.getD i ((0:Int), (0:Int), false, ())).2.1 < 1 <;> by_cases c2 : 31 < (v.2.1.getD i ((0:Int), (0:Int), false, ())).2.1 <;> simp [c1, c2, -List.getD_eq_getElem?_getD]
  · simp [view_Valid_L2]

theorem valid_eq (k : Nat) (v : TView) (nodes : Int) (hk : v.2.1.length < k) (hl : v.2.1.length ≤ 1000) : view_Valid k v nodes = some (vv v nodes, ()) := by
  unfold view_Valid
  rw [isNodes_eq]
  simp only [Option.bind_some]
  unfold vv
  by_cases h1 : nodes < 1 ∨ 5 < nodes
  · have : (decide (1 ≤ nodes) && decide (nodes ≤ 5)) = false := by simp; omega
    simp [this, h1]
  · have : (decide (1 ≤ nodes) && decide (nodes ≤ 5)) = true := by simp; omega
    simp only [this, h1, if_false, Bool.not_true, cond_false]
    by_cases h2 : v.1 < 0 ∨ 16 ≤ v.1
    · have : (bif decide (v.1 < 0) then true else decide (16 ≤ v.1)) = true := by
        rcases h2 with h | h
        · simp [h]
        · by_cases h' : v.1 < 0 <;> simp [h, h']
      simp [this, h2]
    · have : (bif decide (v.1 < 0) then true else decide (16 ≤ v.1)) = false := by
        have : ¬ v.1 < 0 := fun h => h2 (.inl h)
        simp [this]; omega
      simp only [this, h2, if_false, cond_false]
      by_cases h3 : v.2.1 = []
      · simp [h3]
      · have h3' : ¬ ((v.2.1.length : Int) = 0) := by
          intro h; exact h3 (List.eq_nil_of_length_eq_zero (by omega))
        simp only [h3', decide_false, cond_false, h3, if_false]
        rw [valid_L1 k nodes v hk hl, ← find_any]
        cases (List.range v.2.1.length).find? (bad1 nodes v.2.1) with
        | some i => simp
        | none =>
          simp only [Option.elim_none, Option.bind_some, Sum.elim_inr, Option.isSome_none, Bool.false_eq_true, if_false]
          rw [valid_L2 k v hk hl, ← find_any]
          cases (List.range v.2.1.length).find? (bad2 v.2.1) with
          | some i => simp
          | none =>
            simp only [Option.elim_none, Option.bind_some, Sum.elim_inr, Option.isSome_none, Bool.false_eq_true, if_false]
            rw [isFull_any k v.2.1 hk hl]
            cases v.2.1.any (·.2.2.1) <;> simp

theorem full_eq (k : Nat) (v : TView) (hk : v.2.1.length < k) (hl : v.2.1.length ≤ 1000) : bodegaref9_Full k v = some (v.2.1.filter (·.2.2.1), ()) := by
  have L : ∃ o, bodegaref9_Full_L1_it k v [] 0 = some o ∧ o = (v.2.1.filter (·.2.2.1), ()) := by
    refine iterO_inv (fun i s => s = (v, (v.2.1.take i).filter (·.2.2.1), (i : Int), ())) (fun o => o = (v.2.1.filter (·.2.2.1), ())) v.2.1.length ?_ k hk _ (by simp)
    rintro i s hi rfl
    by_cases h : i < v.2.1.length
    · left
      have h1 : (decide ((i : Int) < (v.2.1.length : Int))) = true := by simp; omega
      have hlen : ((v.2.1.take i).filter (·.2.2.1)).length ≤ 1000 := Nat.le_trans (List.length_filter_le _ _) (by simp; omega)
      have h2 : (decide (((v.2.1.take i).filter (·.2.2.1)).length + [v.2.1.getD i ((0:Int), (0:Int), false, ())].length < 1073741824)) = true := by simp; omega
      simp only [bodegaref9_Full_L1, nx (show i < 2000 by omega), Int.toNat_natCast, h1, h2, cond_true]
      have ht : v.2.1.take (i + 1) = v.2.1.take i ++ [v.2.1.getD i ((0:Int), (0:Int), false, ())] := by rw [getD_lt h, List.take_succ_eq_append_getElem h]
      rw [ht, List.filter_append]
      cases hb : (v.2.1.getD i ((0:Int), (0:Int), false, ())).2.2.1 with
      | true => exact ⟨_, rfl, h, by simp [hb, -List.getD_eq_getElem?_getD]⟩
      | false => exact ⟨_, rfl, h, by simp [hb, -List.getD_eq_getElem?_getD]⟩
    · right
      have : i = v.2.1.length := by omega
      subst this
      exact ⟨((v.2.1.take v.2.1.length).filter (·.2.2.1), ()), by simp [bodegaref9_Full_L1], by simp⟩
  obtain ⟨o, h1, rfl⟩ := L
  unfold bodegaref9_Full
  rw [h1]
  rfl

end Go.Proofs.Ytjbnedjlcpdekaa.N

namespace Go.Proofs.Ytjbnedjlcpdekaa.N
open Go.VL

theorem rvalid_L1 (k : Nat) (nodes : Int) (v : TView) (hk : v.2.1.length < k) (hl : v.2.1.length ≤ 1000) :
    bodegaref9_ValidView_L1_it k nodes v 0 = some (((List.range v.2.1.length).find? (bad1 nodes v.2.1)).elim (Sum.inr (v, ())) (fun _ => Sum.inl (1, ()))) := by
  refine iterO_find (fun i => (nodes, v, (i : Int), ())) (bad1 nodes v.2.1) (fun i => Sum.inl (1, ())) (Sum.inr (v, ())) v.2.1.length ?_ ?_ k hk
  · intro i hi
    have h1 : (decide ((i : Int) < (v.2.1.length : Int))) = true := by simp; omega
    simp only [bodegaref9_ValidView_L1, nx (show i < 2000 by omega), pv (show i < 2000 by omega), Int.toNat_natCast, h1, cond_true, bad1]
    have h2 : ((i : Int) - 1).toNat = i - 1 := by omega
    rw [h2]
    by_cases h0 : 0 < i
    · have h3 : (decide ((0 : Int) ≤ (i : Int) - 1) && decide ((i : Int) - 1 < (v.2.1.length : Int))) = true := by simp; omega
      have h4 : (decide ((0 : Int) < (i : Int))) = true := by simp; omega
      simp only [h3, h4, h0, decide_true, Bool.true_or, Bool.true_and, cond_true]
      by_cases c1 : (v.2.1.getD i ((0:Int), (0:Int), false, ())).1 < 0 <;> by_cases c2 : nodes ≤ (v.2.1.getD i ((0:Int), (0:Int), false, ())).1 <;> by_cases c3 : (v.2.1.getD i ((0:Int), (0:Int), false, ())).1 ≤ (v.2.1.getD (i - 1) ((0:Int), (0:Int), false, ())).1 <;> simp [c1, c2, c3, -List.getD_eq_getElem?_getD]
    · have h4 : (decide ((0 : Int) < (i : Int))) = false := by simp; omega
      simp only [h4, h0, decide_false, Bool.false_and, Bool.not_false, Bool.or_true, cond_true, Bool.or_false, cond_false]
      by_cases c1 : (v.2.1.getD i ((0:Int), (0:Int), false, ())).1 < 0 <;> by_cases c2 : nodes ≤ (v.2.1.getD i ((0:Int), (0:Int), false, ())).1 <;> simp [c1, c2, -List.getD_eq_getElem?_getD]
  · simp [bodegaref9_ValidView_L1]

theorem rvalid_L2 (k : Nat) (v : TView) (hk : v.2.1.length < k) (hl : v.2.1.length ≤ 1000) :
    bodegaref9_ValidView_L2_it k v 0 = some (((List.range v.2.1.length).find? (bad2 v.2.1)).elim (Sum.inr (v, ())) (fun _ => Sum.inl (2, ()))) := by
  refine iterO_find (fun i => (v, (i : Int), ())) (bad2 v.2.1) (fun i => Sum.inl (2, ())) (Sum.inr (v, ())) v.2.1.length ?_ ?_ k hk
  · intro i hi
    have h1 : (decide ((i : Int) < (v.2.1.length : Int))) = true := by simp; omega
    simp only [bodegaref9_ValidView_L2, nx (show i < 2000 by omega), Int.toNat_natCast, h1, cond_true, bad2]
    by_cases c1 : (v.2.1.getD i ((0:Int), (0:Int), false, ())).2.1 < 1 <;> by_cases c2 : 31 < (v.2.1.getD i ((0:Int), (0:Int), false, ())).2.1 <;> simp [c1, c2, -List.getD_eq_getElem?_getD]
  · simp [bodegaref9_ValidView_L2]

theorem any_filter {α : Type} (l : List α) (p : α → Bool) : (l.any p = true) ↔ (l.filter p) ≠ [] := by
  rw [List.any_eq_true, ne_eq, List.filter_eq_nil_iff]
  constructor
  · rintro ⟨x, hx, h⟩ hn; exact hn x hx h
  · intro h
    false_or_by_contra
    rename_i h2
    exact h fun a ha hp => h2 ⟨a, ha, hp⟩

theorem rvalid_eq (k : Nat) (v : TView) (nodes : Int) (hk : v.2.1.length < k) (hl : v.2.1.length ≤ 1000) : bodegaref9_ValidView k v nodes = some (vv v nodes, ()) := by
  unfold bodegaref9_ValidView vv
  by_cases h1 : nodes < 1 ∨ 5 < nodes
  · have : (bif decide (nodes < 1) then true else decide (5 < nodes)) = true := by
      rcases h1 with h | h
      · simp [h]
      · by_cases h' : nodes < 1 <;> simp [h, h']
    simp [this, h1]
  · have : (bif decide (nodes < 1) then true else decide (5 < nodes)) = false := by
      have : ¬ nodes < 1 := fun h => h1 (.inl h)
      simp [this]; omega
    simp only [this, h1, if_false, cond_false]
    by_cases h2 : v.1 < 0 ∨ 16 ≤ v.1
    · have : (bif decide (v.1 < 0) then true else decide (16 ≤ v.1)) = true := by
        rcases h2 with h | h
        · simp [h]
        · by_cases h' : v.1 < 0 <;> simp [h, h']
      simp [this, h2]
    · have : (bif decide (v.1 < 0) then true else decide (16 ≤ v.1)) = false := by
        have : ¬ v.1 < 0 := fun h => h2 (.inl h)
        simp [this]; omega
      simp only [this, h2, if_false, cond_false]
      rw [rvalid_L1 k nodes v hk hl, ← find_any]
      cases (List.range v.2.1.length).find? (bad1 nodes v.2.1) with
      | some i => simp
      | none =>
        simp only [Option.elim_none, Option.bind_some, Sum.elim_inr, Option.isSome_none, Bool.false_eq_true, if_false]
        by_cases h3 : v.2.1 = []
        · simp [h3]
        · have h3' : ¬ ((v.2.1.length : Int) = 0) := by
            intro h; exact h3 (List.eq_nil_of_length_eq_zero (by omega))
          simp only [h3', decide_false, cond_false, h3, if_false]
          rw [rvalid_L2 k v hk hl, ← find_any]
          cases (List.range v.2.1.length).find? (bad2 v.2.1) with
          | some i => simp
          | none =>
            simp only [Option.elim_none, Option.bind_some, Sum.elim_inr, Option.isSome_none, Bool.false_eq_true, if_false]
            rw [full_eq k v hk hl]
            by_cases hf : v.2.1.filter (·.2.2.1) = []
            · have : ¬ v.2.1.any (·.2.2.1) = true := by rw [any_filter]; simpa using hf
              simp [hf, this]
            · have h4 : v.2.1.any (·.2.2.1) = true := (any_filter _ _).2 hf
              have h5 : ¬ (((v.2.1.filter (·.2.2.1)).length : Int) = 0) := by
                intro h; exact hf (List.eq_nil_of_length_eq_zero (by omega))
              simp only [h4, if_true, Option.bind_some, h5, decide_false, cond_false]

/-! ### The same -/
theorem memEq (x y : TMember) : x = y ↔ x.1 = y.1 ∧ x.2.1 = y.2.1 ∧ x.2.2.1 = y.2.2.1 := by
  obtain ⟨x1, x2, x3, x4⟩ := x
  obtain ⟨y1, y2, y3, y4⟩ := y
  simp

theorem same_L (k : Nat) (a b : TView) (hk : a.2.1.length < k) (hl : a.2.1.length ≤ 1000) (hab : a.2.1.length = b.2.1.length) :
    bodegaref9_SameView_L1_it k a b 0 = some (bif decide (a.2.1 = b.2.1) then Sum.inr () else Sum.inl (false, ())) := by
  have L : bodegaref9_SameView_L1_it k a b 0 = some (((List.range a.2.1.length).find? (fun i => !decide (a.2.1.getD i ((0:Int), (0:Int), false, ()) = b.2.1.getD i ((0:Int), (0:Int), false, ())))).elim (Sum.inr ()) (fun _ => Sum.inl (false, ()))) := by
    refine iterO_find (fun i => (a, b, (i : Int), ())) (fun i => !decide (a.2.1.getD i ((0:Int), (0:Int), false, ()) = b.2.1.getD i ((0:Int), (0:Int), false, ()))) (fun i => Sum.inl (false, ())) (Sum.inr ()) a.2.1.length ?_ ?_ k hk
    · intro i hi
      have h1 : (decide ((i : Int) < (a.2.1.length : Int))) = true := by simp; omega
      have h2 : (decide ((i : Int) < (b.2.1.length : Int))) = true := by simp; omega
      simp only [bodegaref9_SameView_L1, nx (show i < 2000 by omega), Int.toNat_natCast, h1, h2, cond_true]
      have hx := memEq (a.2.1.getD i ((0:Int), (0:Int), false, ())) (b.2.1.getD i ((0:Int), (0:Int), false, ()))
      by_cases c1 : (a.2.1.getD i ((0:Int), (0:Int), false, ())).1 = (b.2.1.getD i ((0:Int), (0:Int), false, ())).1 <;> by_cases c2 : (a.2.1.getD i ((0:Int), (0:Int), false, ())).2.1 = (b.2.1.getD i ((0:Int), (0:Int), false, ())).2.1 <;> by_cases c3 : (a.2.1.getD i ((0:Int), (0:Int), false, ())).2.2.1 = (b.2.1.getD i ((0:Int), (0:Int), false, ())).2.2.1 <;> first | (simp [hx, c1, c2, c3, -List.getD_eq_getElem?_getD]; done) | (simp [hx, c1, c2, c3, -List.getD_eq_getElem?_getD]; rw [beq_false_of_ne c3]; rfl)
    · simp [bodegaref9_SameView_L1]
  rw [L]
  by_cases h : a.2.1 = b.2.1
  · have : (List.range a.2.1.length).find? (fun i => !decide (a.2.1.getD i ((0:Int), (0:Int), false, ()) = b.2.1.getD i ((0:Int), (0:Int), false, ()))) = none := by
      rw [List.find?_eq_none]
      intro i _
      simp [h]
    rw [this]
    simp [h]
  · cases hf : (List.range a.2.1.length).find? (fun i => !decide (a.2.1.getD i ((0:Int), (0:Int), false, ()) = b.2.1.getD i ((0:Int), (0:Int), false, ()))) with
    | some i => simp [h]
    | none =>
      exfalso
      apply h
      rw [List.find?_eq_none] at hf
      apply List.ext_getElem hab
      intro i h1 h2
      have := hf i (List.mem_range.2 h1)
      rw [getD_lt h1, getD_lt h2] at this
      simpa using this

theorem same_eq (k : Nat) (a b : TView) (hk : a.2.1.length < k) (hl : a.2.1.length ≤ 1000) : bodegaref9_SameView k a b = some (decide (a = b), ()) := by
  have e : a = b ↔ a.1 = b.1 ∧ a.2.1 = b.2.1 := by
    obtain ⟨a1, a2, a3⟩ := a
    obtain ⟨b1, b2, b3⟩ := b
    simp
  unfold bodegaref9_SameView
  by_cases h1 : a.1 = b.1
  · by_cases h2 : a.2.1.length = b.2.1.length
    · have h2' : (a.2.1.length : Int) = (b.2.1.length : Int) := by omega
      simp only [h1, h2', decide_true, Bool.not_true, cond_false]
      rw [same_L k a b hk hl h2]
      by_cases h3 : a.2.1 = b.2.1 <;> simp [h3, e, h1]
    · have h2' : ¬ (a.2.1.length : Int) = (b.2.1.length : Int) := by omega
      have h3 : ¬ a.2.1 = b.2.1 := fun h => h2 (by rw [h])
      simp [h1, h2', e, h3]
  · simp [h1, e]

theorem equal_L (k : Nat) (a b : List TMember) (hk : a.length < k) (hl : a.length ≤ 1000) (hab : a.length = b.length) :
    slices_Equal_L1_it k a b (a.length : Int) 0 = some (bif decide (a = b) then Sum.inr () else Sum.inl (false, ())) := by
  have L : slices_Equal_L1_it k a b (a.length : Int) 0 = some (((List.range a.length).find? (fun i => !decide (a.getD i ((0:Int), (0:Int), false, ()) = b.getD i ((0:Int), (0:Int), false, ())))).elim (Sum.inr ()) (fun _ => Sum.inl (false, ()))) := by
    refine iterO_find (fun i => (a, b, (a.length : Int), (i : Int), ())) (fun i => !decide (a.getD i ((0:Int), (0:Int), false, ()) = b.getD i ((0:Int), (0:Int), false, ()))) (fun i => Sum.inl (false, ())) (Sum.inr ()) a.length ?_ ?_ k hk
    · intro i hi
      have h1 : (decide ((i : Int) < (a.length : Int))) = true := by simp; omega
      have h2 : (decide ((i : Int) < (b.length : Int))) = true := by simp; omega
      simp only [slices_Equal_L1, nx (show i < 2000 by omega), Int.toNat_natCast, h1, h2, cond_true]
      have hx := memEq (a.getD i ((0:Int), (0:Int), false, ())) (b.getD i ((0:Int), (0:Int), false, ()))
      by_cases c1 : (a.getD i ((0:Int), (0:Int), false, ())).1 = (b.getD i ((0:Int), (0:Int), false, ())).1 <;> by_cases c2 : (a.getD i ((0:Int), (0:Int), false, ())).2.1 = (b.getD i ((0:Int), (0:Int), false, ())).2.1 <;> by_cases c3 : (a.getD i ((0:Int), (0:Int), false, ())).2.2.1 = (b.getD i ((0:Int), (0:Int), false, ())).2.2.1 <;> first | (simp [hx, c1, c2, c3, -List.getD_eq_getElem?_getD]; done) | (simp [hx, c1, c2, c3, -List.getD_eq_getElem?_getD]; rw [beq_false_of_ne c3]; rfl)
    · simp [slices_Equal_L1]
  rw [L]
  by_cases h : a = b
  · have : (List.range a.length).find? (fun i => !decide (a.getD i ((0:Int), (0:Int), false, ()) = b.getD i ((0:Int), (0:Int), false, ()))) = none := by
      rw [List.find?_eq_none]
      intro i _
      simp [h]
    rw [this]
    simp [h]
  · cases hf : (List.range a.length).find? (fun i => !decide (a.getD i ((0:Int), (0:Int), false, ()) = b.getD i ((0:Int), (0:Int), false, ()))) with
    | some i => simp [h]
    | none =>
      exfalso
      apply h
      rw [List.find?_eq_none] at hf
      apply List.ext_getElem hab
      intro i h1 h2
      have := hf i (List.mem_range.2 h1)
      rw [getD_lt h1, getD_lt h2] at this
      simpa using this

theorem vsame_eq (k : Nat) (a b : TView) (hk : a.2.1.length < k) (hl : a.2.1.length ≤ 1000) : view_Same k a b = some (decide (a = b), ()) := by
  have e : a = b ↔ a.1 = b.1 ∧ a.2.1 = b.2.1 := by
    obtain ⟨a1, a2, a3⟩ := a
    obtain ⟨b1, b2, b3⟩ := b
    simp
  unfold view_Same slices_Equal
  by_cases h1 : a.1 = b.1
  · by_cases h2 : a.2.1.length = b.2.1.length
    · have h2' : (a.2.1.length : Int) = (b.2.1.length : Int) := by omega
      simp only [h1, h2', decide_true, Bool.not_true, cond_false, cond_true]
      rw [← h2', equal_L k a.2.1 b.2.1 hk hl h2]
      by_cases h3 : a.2.1 = b.2.1 <;> simp [h3, e, h1]
    · have h2' : ¬ (a.2.1.length : Int) = (b.2.1.length : Int) := by omega
      have h3 : ¬ a.2.1 = b.2.1 := fun h => h2 (by rw [h])
      simp [h1, h2', e, h3]
  · simp [h1, e]

end Go.Proofs.Ytjbnedjlcpdekaa.N

namespace Go.Proofs.Ytjbnedjlcpdekaa.N
open Go.VL

/-! ### Values -/
/-- the bits of a member -/
def dg (m : TMember) : Nat := 1 + (bif m.2.2.1 then 2 else 0) + 4 * m.2.1.toNat
def okM (m : TMember) : Prop := 0 ≤ m.1 ∧ m.1 < 5 ∧ 1 ≤ m.2.1 ∧ m.2.1 ≤ 31
def sumN : List TMember → Nat
  | [] => 0
  | m :: ms => dg m * 2 ^ (7 * m.1.toNat) + sumN ms

theorem dg_lt {m : TMember} (h : okM m) : dg m < 128 := by
  obtain ⟨_, _, h3, h4⟩ := h
  unfold dg
  cases m.2.2.1 <;> simp <;> omega

theorem sumN_append (a b : List TMember) : sumN (a ++ b) = sumN a + sumN b := by
  induction a with
  | nil => simp [sumN]
  | cons m a ih => simp only [List.cons_append, sumN, ih]; omega

/-- what a valid view is -/
structure Good (v : TView) (nodes : Int) : Prop where
  n : 1 ≤ nodes ∧ nodes ≤ 5
  num : 0 ≤ v.1 ∧ v.1 < 16
  ne : v.2.1 ≠ []
  ok : ∀ i, i < v.2.1.length → 0 ≤ (v.2.1.getD i ((0:Int), (0:Int), false, ())).1 ∧ (v.2.1.getD i ((0:Int), (0:Int), false, ())).1 < nodes ∧ 1 ≤ (v.2.1.getD i ((0:Int), (0:Int), false, ())).2.1 ∧ (v.2.1.getD i ((0:Int), (0:Int), false, ())).2.1 ≤ 31
  asc : ∀ i, i + 1 < v.2.1.length → (v.2.1.getD i ((0:Int), (0:Int), false, ())).1 < (v.2.1.getD (i + 1) ((0:Int), (0:Int), false, ())).1
  full : v.2.1.any (·.2.2.1) = true

theorem vv_zero (v : TView) (nodes : Int) : vv v nodes = 0 ↔ Good v nodes := by
  unfold vv
  constructor
  · intro h
    split at h
    · simp at h
    rename_i h1
    split at h
    · simp at h
    rename_i h2
    split at h
    · simp at h
    rename_i h3
    split at h
    · simp at h
    rename_i h4
    split at h
    · simp at h
    rename_i h5
    split at h
    case isFalse => simp at h
    rename_i h6
    have k3 : ∀ i, i < v.2.1.length → bad1 nodes v.2.1 i = false := fun i hi => by
      cases hb : bad1 nodes v.2.1 i with
      | false => rfl
      | true => exact absurd (List.any_eq_true.2 ⟨i, List.mem_range.2 hi, hb⟩) h3
    have k5 : ∀ i, i < v.2.1.length → bad2 v.2.1 i = false := fun i hi => by
      cases hb : bad2 v.2.1 i with
      | false => rfl
      | true => exact absurd (List.any_eq_true.2 ⟨i, List.mem_range.2 hi, hb⟩) h5
    refine ⟨by omega, by omega, h4, fun i hi => ?_, fun i hi => ?_, h6⟩
    · have a := k3 i hi
      have b := k5 i hi
      simp only [bad1, bad2, Bool.or_eq_false_iff, decide_eq_false_iff_not] at a b
      omega
    · have a := k3 (i + 1) hi
      simp only [bad1, Bool.or_eq_false_iff, Bool.and_eq_false_iff, decide_eq_false_iff_not, Nat.add_sub_cancel] at a
      omega
  · intro g
    have h1 : ¬ (nodes < 1 ∨ 5 < nodes) := by have := g.n; omega
    have h2 : ¬ (v.1 < 0 ∨ 16 ≤ v.1) := by have := g.num; omega
    have h3 : ¬ (List.range v.2.1.length).any (bad1 nodes v.2.1) = true := by
      rw [List.any_eq_true]
      rintro ⟨i, hi, hb⟩
      have hi := List.mem_range.1 hi
      have k := g.ok i hi
      simp only [bad1, Bool.or_eq_true, Bool.and_eq_true, decide_eq_true_eq] at hb
      by_cases h0 : 0 < i
      · have k2 := g.asc (i - 1) (by omega)
        rw [show i - 1 + 1 = i by omega] at k2
        omega
      · omega
    have h5 : ¬ (List.range v.2.1.length).any (bad2 v.2.1) = true := by
      rw [List.any_eq_true]
      rintro ⟨i, hi, hb⟩
      have k := g.ok i (List.mem_range.1 hi)
      simp only [bad2, Bool.or_eq_true, decide_eq_true_eq] at hb
      omega
    rw [if_neg h1, if_neg h2, if_neg h3, if_neg g.ne, if_neg h5, if_pos g.full]

theorem Good.mono {v : TView} {n : Int} (g : Good v n) : Good v 5 :=
  ⟨by omega, g.num, g.ne, fun i hi => by have := g.ok i hi; have := g.n; omega, g.asc, g.full⟩

theorem Good.okM {v : TView} (g : Good v 5) {i : Nat} (hi : i < v.2.1.length) : okM (v.2.1.getD i ((0:Int), (0:Int), false, ())) := g.ok i hi

theorem sum_lt {v : TView} (g : Good v 5) : ∀ i, i < v.2.1.length → sumN (v.2.1.take i) < 2 ^ (7 * (v.2.1.getD i ((0:Int), (0:Int), false, ())).1.toNat) := by
  intro i
  induction i with
  | zero => intro _; simp only [List.take_zero, sumN]; exact Nat.pow_pos (by omega)
  | succ i ih =>
    intro hi
    have h := ih (by omega)
    have ht : v.2.1.take (i + 1) = v.2.1.take i ++ [v.2.1.getD i ((0:Int), (0:Int), false, ())] := by rw [getD_lt (by omega), List.take_succ_eq_append_getElem (by omega)]
    have hd := dg_lt (g.okM (i := i) (by omega))
    have ha := g.asc i hi
    have h0 := (g.ok i (by omega)).1
    rw [ht, sumN_append]
    generalize v.2.1.getD i ((0:Int), (0:Int), false, ()) = m at *
    generalize (v.2.1.getD (i + 1) ((0:Int), (0:Int), false, ())).1 = n at *
    simp only [sumN, Nat.add_zero]
    have e : 2 ^ (7 * (m.1.toNat + 1)) = 128 * 2 ^ (7 * m.1.toNat) := by rw [Nat.mul_add, Nat.pow_add]; omega
    have hle : 2 ^ (7 * (m.1.toNat + 1)) ≤ 2 ^ (7 * n.toNat) := Nat.pow_le_pow_right (by omega) (by omega)
    have : dg m * 2 ^ (7 * m.1.toNat) ≤ 127 * 2 ^ (7 * m.1.toNat) := Nat.mul_le_mul_right _ (by omega)
    omega

/-- bits that are put above -/
theorem or_add {n S d : Nat} (hn : n ≤ 4) (hS : S < 2 ^ (7 * n)) (hd : d < 128) : (549755813888 + S) ||| (d * 2 ^ (7 * n)) = 549755813888 + S + d * 2 ^ (7 * n) := by
  have e1 : 549755813888 = 2 ^ (7 * n) * 2 ^ (39 - 7 * n) := by rw [← Nat.pow_add, show 7 * n + (39 - 7 * n) = 39 by omega]
  have hd2 : d < 2 ^ (39 - 7 * n) := Nat.lt_of_lt_of_le hd (Nat.pow_le_pow_right (n := 2) (by omega) (by omega : 7 ≤ 39 - 7 * n))
  have e2 : 2 ^ (7 * n) * 2 ^ (39 - 7 * n) ||| 2 ^ (7 * n) * d = 2 ^ (7 * n) * (2 ^ (39 - 7 * n) + d) := by
    have := Nat.two_pow_add_eq_or_of_lt hd2 1
    rw [Nat.mul_one] at this
    rw [this]
    rw [Nat.mul_comm _ d, Nat.mul_comm _ (2 ^ (39 - 7 * n)), Nat.mul_comm _ (2 ^ (39 - 7 * n) ||| d), ← Nat.shiftLeft_eq, ← Nat.shiftLeft_eq, ← Nat.shiftLeft_eq, Nat.shiftLeft_or_distrib]
  have L : (2 ^ (7 * n) * 2 ^ (39 - 7 * n) + S) ||| (d * 2 ^ (7 * n)) = 2 ^ (7 * n) * (2 ^ (39 - 7 * n) + d) + S := by
    rw [Nat.two_pow_add_eq_or_of_lt hS, Nat.mul_comm d, Nat.or_assoc, Nat.or_comm S, ← Nat.or_assoc, e2, ← Nat.two_pow_add_eq_or_of_lt hS]
  rw [e1, L, Nat.mul_add, Nat.mul_comm d]
  omega

theorem bits_v : ∀ b : Fin 32, 1 ≤ b.val → IntKind.u64.wrap (ior .i64 (ishl .i64 (b.val : Int) (2:Int)) (1:Int)) = ((1 + 4 * b.val : Nat) : Int) ∧ ior .u64 ((1 + 4 * b.val : Nat) : Int) 2 = ((3 + 4 * b.val : Nat) : Int) ∧
    ior .u64 (1:Int) (ishl .u64 (IntKind.u64.wrap (b.val : Int)) (2:Int)) = ((1 + 4 * b.val : Nat) : Int) := by decide

theorem sh_v (n : Int) (h0 : 0 ≤ n) (h1 : n < 5) : IntKind.u64.wrap (IntKind.i64.wrap ((7:Int) * n)) = ((7 * n.toNat : Nat) : Int) := by
  rw [wrap_i64 (by omega) (by omega), wrap_u64 (by omega) (by omega)]
  omega

theorem step_v {v : TView} (g : Good v 5) {i : Nat} (hi : i < v.2.1.length) :
    ior .u64 ((549755813888 + sumN (v.2.1.take i) : Nat) : Int) (ishl .u64 ((dg (v.2.1.getD i ((0:Int), (0:Int), false, ())) : Nat) : Int) (IntKind.u64.wrap (IntKind.i64.wrap ((7:Int) * (v.2.1.getD i ((0:Int), (0:Int), false, ())).1)))) = ((549755813888 + sumN (v.2.1.take (i + 1)) : Nat) : Int) := by
  have hs := sum_lt g i hi
  have ht : v.2.1.take (i + 1) = v.2.1.take i ++ [v.2.1.getD i ((0:Int), (0:Int), false, ())] := by rw [getD_lt (by omega), List.take_succ_eq_append_getElem (by omega)]
  have hm := g.okM hi
  have hd := dg_lt hm
  rw [ht, sumN_append]
  generalize v.2.1.getD i ((0:Int), (0:Int), false, ()) = m at *
  simp only [sumN, Nat.add_zero]
  rw [sh_v m.1 hm.1 hm.2.1]
  have hn : m.1.toNat ≤ 4 := by have := hm.2.1; omega
  have hp : 2 ^ (7 * m.1.toNat) ≤ 2 ^ 28 := Nat.pow_le_pow_right (by omega) (by omega)
  have hb : dg m * 2 ^ (7 * m.1.toNat) ≤ 127 * 2 ^ 28 := Nat.mul_le_mul (by omega) hp
  rw [ishl_u64 _ _ (by omega) (by omega), ior_u64 _ _ (by omega) (by omega), or_add hn hs hd]
  congr 1
  omega

end Go.Proofs.Ytjbnedjlcpdekaa.N

namespace Go.Proofs.Ytjbnedjlcpdekaa.N
open Go.VL

theorem z0 (i : Nat) : decide ((0 : Int) ≤ (i : Int)) = true := decide_eq_true (Int.natCast_nonneg i)

theorem bits_p {m : TMember} (h : okM m) : IntKind.u64.wrap (ior .i64 (ishl .i64 m.2.1 (2:Int)) (1:Int)) = ((1 + 4 * m.2.1.toNat : Nat) : Int) ∧ ior .u64 (1:Int) (ishl .u64 (IntKind.u64.wrap m.2.1) (2:Int)) = ((1 + 4 * m.2.1.toNat : Nat) : Int) ∧
    ior .u64 ((1 + 4 * m.2.1.toNat : Nat) : Int) 2 = ((3 + 4 * m.2.1.toNat : Nat) : Int) := by
  obtain ⟨_, _, h3, h4⟩ := h
  have := bits_v ⟨m.2.1.toNat, by omega⟩ (by show 1 ≤ m.2.1.toNat; omega)
  have e : ((m.2.1.toNat : Nat) : Int) = m.2.1 := by omega
  simp only at this
  rw [e] at this
  exact ⟨this.1, this.2.2, this.2.1⟩

theorem value_L {k : Nat} {v : TView} (g : Good v 5) (hk : v.2.1.length < k) (hl : v.2.1.length ≤ 1000) :
    view_Value_L1_it k 549755813888 v.2.1 (v.2.1.length : Int) 0 = some (((549755813888 + sumN v.2.1 : Nat) : Int), ()) := by
  have L : ∃ o, view_Value_L1_it k 549755813888 v.2.1 (v.2.1.length : Int) 0 = some o ∧ o = (((549755813888 + sumN v.2.1 : Nat) : Int), ()) := by
    refine iterO_inv (fun i s => s = (((549755813888 + sumN (v.2.1.take i) : Nat) : Int), v.2.1, (v.2.1.length : Int), (i : Int), ())) (fun o => o = (((549755813888 + sumN v.2.1 : Nat) : Int), ())) v.2.1.length ?_ k hk _ (by simp [sumN])
    rintro i s hi rfl
    by_cases h : i < v.2.1.length
    · left
      have h1 : (decide ((i : Int) < (v.2.1.length : Int))) = true := by simp; omega
      have hm := g.okM h
      obtain ⟨b1, _, b3⟩ := bits_p hm
      have hs := step_v g h
      have h2 : (decide ((0:Int) ≤ IntKind.u64.wrap (IntKind.i64.wrap ((7:Int) * (v.2.1.getD i ((0:Int), (0:Int), false, ())).1)))) = true := by
        rw [sh_v _ hm.1 hm.2.1]; exact decide_eq_true (Int.natCast_nonneg _)
      refine ⟨(((549755813888 + sumN (v.2.1.take (i + 1)) : Nat) : Int), v.2.1, (v.2.1.length : Int), ((i + 1 : Nat) : Int), ()), ?_, h, rfl⟩
      rw [← hs]
      cases hf : (v.2.1.getD i ((0:Int), (0:Int), false, ())).2.2.1 with
      | true =>
        have hd : dg (v.2.1.getD i ((0:Int), (0:Int), false, ())) = 3 + 4 * (v.2.1.getD i ((0:Int), (0:Int), false, ())).2.1.toNat := by unfold dg; rw [hf]; simp
        simp only [view_Value_L1, view_Value_J1, nx (show i < 2000 by omega), Int.toNat_natCast, z0, h1, Bool.and_self, hf, cond_true, Option.bind_some, h2, b1, b3, hd]
      | false =>
        have hd : dg (v.2.1.getD i ((0:Int), (0:Int), false, ())) = 1 + 4 * (v.2.1.getD i ((0:Int), (0:Int), false, ())).2.1.toNat := by unfold dg; rw [hf]; simp
        simp only [view_Value_L1, view_Value_J1, nx (show i < 2000 by omega), Int.toNat_natCast, z0, h1, Bool.and_self, hf, cond_true, cond_false, Option.bind_some, h2, b1, hd]
    · right
      have : i = v.2.1.length := by omega
      subst this
      exact ⟨(((549755813888 + sumN (v.2.1.take v.2.1.length) : Nat) : Int), ()), by simp [view_Value_L1], by simp⟩
  obtain ⟨o, h1, rfl⟩ := L
  exact h1

theorem rvalue_L {k : Nat} {v : TView} (g : Good v 5) (hk : v.2.1.length < k) (hl : v.2.1.length ≤ 1000) :
    bodegaref9_Value_L1_it k v 549755813888 0 = some (((549755813888 + sumN v.2.1 : Nat) : Int), ()) := by
  have L : ∃ o, bodegaref9_Value_L1_it k v 549755813888 0 = some o ∧ o = (((549755813888 + sumN v.2.1 : Nat) : Int), ()) := by
    refine iterO_inv (fun i s => s = (v, ((549755813888 + sumN (v.2.1.take i) : Nat) : Int), (i : Int), ())) (fun o => o = (((549755813888 + sumN v.2.1 : Nat) : Int), ())) v.2.1.length ?_ k hk _ (by simp [sumN])
    rintro i s hi rfl
    by_cases h : i < v.2.1.length
    · left
      have h1 : (decide ((i : Int) < (v.2.1.length : Int))) = true := by simp; omega
      have hm := g.okM h
      obtain ⟨_, b2, b3⟩ := bits_p hm
      have hs := step_v g h
      have h2 : (decide ((0:Int) ≤ IntKind.u64.wrap (IntKind.i64.wrap ((7:Int) * (v.2.1.getD i ((0:Int), (0:Int), false, ())).1)))) = true := by
        rw [sh_v _ hm.1 hm.2.1]; exact decide_eq_true (Int.natCast_nonneg _)
      refine ⟨(v, ((549755813888 + sumN (v.2.1.take (i + 1)) : Nat) : Int), ((i + 1 : Nat) : Int), ()), ?_, h, rfl⟩
      rw [← hs]
      cases hf : (v.2.1.getD i ((0:Int), (0:Int), false, ())).2.2.1 with
      | true =>
        have hd : dg (v.2.1.getD i ((0:Int), (0:Int), false, ())) = 3 + 4 * (v.2.1.getD i ((0:Int), (0:Int), false, ())).2.1.toNat := by unfold dg; rw [hf]; simp
        simp only [bodegaref9_Value_L1, bodegaref9_Value_J1, nx (show i < 2000 by omega), Int.toNat_natCast, z0, h1, Bool.and_self, hf, cond_true, Option.bind_some, h2, b2, b3, hd]
      | false =>
        have hd : dg (v.2.1.getD i ((0:Int), (0:Int), false, ())) = 1 + 4 * (v.2.1.getD i ((0:Int), (0:Int), false, ())).2.1.toNat := by unfold dg; rw [hf]; simp
        simp only [bodegaref9_Value_L1, bodegaref9_Value_J1, nx (show i < 2000 by omega), Int.toNat_natCast, z0, h1, Bool.and_self, hf, cond_true, cond_false, Option.bind_some, h2, b2, hd]
    · right
      have : i = v.2.1.length := by omega
      subst this
      exact ⟨(((549755813888 + sumN (v.2.1.take v.2.1.length) : Nat) : Int), ()), by simp [bodegaref9_Value_L1], by simp⟩
  obtain ⟨o, h1, rfl⟩ := L
  exact h1

def valI (v : TView) : Int := if vv v 5 = 0 then ((549755813888 + sumN v.2.1 : Nat) : Int) else 0

theorem value_eq (k : Nat) (v : TView) (hk : v.2.1.length < k) (hl : v.2.1.length ≤ 1000) : view_Value k v = some (valI v, vv v 5, ()) := by
  unfold view_Value valI
  rw [valid_eq k v 5 hk hl]
  simp only [Option.bind_some]
  by_cases h : vv v 5 = 0
  · have g := (vv_zero v 5).1 h
    rw [value_L g hk hl]
    simp [h]
  · simp [h]

theorem rvalue_eq (k : Nat) (v : TView) (hk : v.2.1.length < k) (hl : v.2.1.length ≤ 1000) : bodegaref9_Value k v = some (valI v, vv v 5, ()) := by
  unfold bodegaref9_Value valI
  rw [rvalid_eq k v 5 hk hl]
  simp only [Option.bind_some]
  by_cases h : vv v 5 = 0
  · have g := (vv_zero v 5).1 h
    rw [rvalue_L g hk hl]
    simp [h]
  · simp [h]

/-! ### The first view -/
def initM (n : Nat) : List TMember := (List.range n).map fun (i : Nat) => ((i : Int), (1 : Int), true, ())

theorem initM_succ (i : Nat) : initM (i + 1) = initM i ++ [((i : Int), (1 : Int), true, ())] := by simp [initM, List.range_succ]
theorem initM_len (i : Nat) : (initM i).length = i := by simp [initM]

theorem initial_L (k n : Nat) (hk : n < k) (hn : n ≤ 5) : view_Initial_L1_it k ((0:Int), [], ()) ((0:Int), [], ()) (n : Int) 0 = some (((0:Int), [], ()), ((0:Int), initM n, ()), ()) := by
  have L : ∃ o, view_Initial_L1_it k ((0:Int), [], ()) ((0:Int), [], ()) (n : Int) 0 = some o ∧ o = (((0:Int), [], ()), ((0:Int), initM n, ()), ()) := by
    refine iterO_inv (fun i s => s = (((0:Int), [], ()), ((0:Int), initM i, ()), (n : Int), (i : Int), ())) (fun o => o = (((0:Int), [], ()), ((0:Int), initM n, ()), ())) n ?_ k hk _ (by simp [initM])
    rintro i s hi rfl
    by_cases h : i < n
    · left
      have h1 : (decide ((i : Int) < (n : Int))) = true := by simp; omega
      have h2 : (decide ((initM i).length + [((i : Int), (1 : Int), true, ())].length < 1073741824)) = true := by rw [initM_len]; exact decide_eq_true (by simp; omega)
      refine ⟨(((0:Int), [], ()), ((0:Int), initM (i + 1), ()), (n : Int), ((i + 1 : Nat) : Int), ()), ?_, h, rfl⟩
      simp only [view_Initial_L1, nx (show i < 2000 by omega), h1, h2, cond_true, initM_succ]
    · right
      have : i = n := by omega
      subst this
      exact ⟨_, by simp [view_Initial_L1], rfl⟩
  obtain ⟨o, h1, rfl⟩ := L
  exact h1

def initV (n : Int) : TView × Int × Unit := if 1 ≤ n ∧ n ≤ 5 then (((0:Int), initM n.toNat, ()), 0, ()) else (((0:Int), [], ()), 1, ())

theorem initial_eq (k : Nat) (n : Int) (hk : 5 < k) : view_Initial k n = some (initV n) := by
  unfold view_Initial initV
  rw [isNodes_eq]
  simp only [Option.bind_some]
  by_cases h : 1 ≤ n ∧ n ≤ 5
  · have e : ((n.toNat : Nat) : Int) = n := by omega
    have := initial_L k n.toNat (by omega) (by omega)
    rw [e] at this
    simp [h, this]
  · have h' : ¬ (1 ≤ n ∧ n ≤ 5) := h
    have : (decide (1 ≤ n) && decide (n ≤ 5)) = false := by simp; omega
    simp [h, this]

theorem rinitial_L (k n : Nat) (hk : n < k) (hn : n ≤ 5) : bodegaref9_Initial_L1_it k (n : Int) ((0:Int), [], ()) ((0:Int), [], ()) 0 = some (((0:Int), [], ()), ((0:Int), initM n, ()), ()) := by
  have L : ∃ o, bodegaref9_Initial_L1_it k (n : Int) ((0:Int), [], ()) ((0:Int), [], ()) 0 = some o ∧ o = (((0:Int), [], ()), ((0:Int), initM n, ()), ()) := by
    refine iterO_inv (fun i s => s = ((n : Int), ((0:Int), [], ()), ((0:Int), initM i, ()), (i : Int), ())) (fun o => o = (((0:Int), [], ()), ((0:Int), initM n, ()), ())) n ?_ k hk _ (by simp [initM])
    rintro i s hi rfl
    by_cases h : i < n
    · left
      have h1 : (decide ((i : Int) < (n : Int))) = true := by simp; omega
      have h2 : (decide ((initM i).length + [((i : Int), (1 : Int), true, ())].length < 1073741824)) = true := by rw [initM_len]; exact decide_eq_true (by simp; omega)
      refine ⟨((n : Int), ((0:Int), [], ()), ((0:Int), initM (i + 1), ()), ((i + 1 : Nat) : Int), ()), ?_, h, rfl⟩
      simp only [bodegaref9_Initial_L1, nx (show i < 2000 by omega), h1, h2, cond_true, initM_succ]
    · right
      have : i = n := by omega
      subst this
      exact ⟨_, by simp [bodegaref9_Initial_L1], rfl⟩
  obtain ⟨o, h1, rfl⟩ := L
  exact h1

theorem rinitial_eq (k : Nat) (n : Int) (hk : 5 < k) : bodegaref9_Initial k n = some (initV n) := by
  unfold bodegaref9_Initial initV
  by_cases h : 1 ≤ n ∧ n ≤ 5
  · have e : ((n.toNat : Nat) : Int) = n := by omega
    have := rinitial_L k n.toNat (by omega) (by omega)
    rw [e] at this
    have h' : (bif decide (n < 1) then true else decide (5 < n)) = false := by
      have : ¬ n < 1 := by omega
      simp [this]; omega
    simp [h, h', this]
  · have h' : (bif decide (n < 1) then true else decide (5 < n)) = true := by
      by_cases h2 : n < 1
      · simp [h2]
      · simp [h2]; omega
    simp [h, h']

theorem primary_eq (k : Nat) (v : TView) : view_Primary k v = some (v.2.1.getD 0 ((0:Int), (0:Int), false, ()), !v.2.1.isEmpty, ()) := by
  unfold view_Primary
  cases h : v.2.1 with
  | nil => simp
  | cons m ms =>
    have h1 : ¬ (((m :: ms).length : Int) = 0) := by rw [List.length_cons]; omega
    have h2 : (0:Int) < (((m :: ms).length : Nat) : Int) := by rw [List.length_cons]; omega
    simp only [h1, h2, decide_true, decide_false, cond_true, cond_false, Bool.and_self, Int.le_refl]
    rfl

theorem awake_eq (k : Nat) (hk : 5 < k) : bodegalaw10_awake k = some (true, ()) := by
  unfold bodegalaw10_awake
  rw [initial_eq k 1 hk]
  simp only [Option.bind_some]
  have e : (initV 1).1 = ((0:Int), [((0:Int), (1:Int), true, ())], ()) := by decide
  rw [e, value_eq k _ (by simp; omega) (by simp), primary_eq]
  have e2 : (initV 1).2.1 = 0 := by decide
  have e3 : vv ((0:Int), [((0:Int), (1:Int), true, ())], ()) 5 = 0 := by decide
  have e4 : valI ((0:Int), [((0:Int), (1:Int), true, ())], ()) = 549755813895 := by
    unfold valI
    rw [if_pos e3]
    decide
  simp [e2, e3, e4]

end Go.Proofs.Ytjbnedjlcpdekaa.N

namespace Go.Proofs.Ytjbnedjlcpdekaa.N
open Go.VL

/-! ### Parsing -/
/-- the member whose bits stand at i -/
def pm (V i : Nat) : List TMember := if V / 2 ^ (7 * i) % 2 = 1 then [((i : Int), ((V / 2 ^ (7 * i) / 4 % 32 : Nat) : Int), decide (V / 2 ^ (7 * i) / 2 % 2 = 1), ())] else []
def pms (V : Nat) : Nat → List TMember
  | 0 => []
  | i + 1 => pms V i ++ pm V i

theorem pms_len (V : Nat) : ∀ i, (pms V i).length ≤ i
  | 0 => by simp [pms]
  | i + 1 => by
    have := pms_len V i
    have h2 : (pm V i).length ≤ 1 := by unfold pm; split <;> simp
    simp only [pms, List.length_append]
    omega

theorem sh_i {i : Nat} (hi : i < 5) : IntKind.u64.wrap (IntKind.i64.wrap ((7:Int) * (i : Int))) = ((7 * i : Nat) : Int) := by
  rw [wrap_i64 (by omega) (by omega), wrap_u64 (by omega) (by omega)]
  omega

theorem not_dec {p q : Prop} [Decidable p] [Decidable q] (h : p ↔ ¬ q) : (!decide p) = decide q := by by_cases hq : q <;> simp [h, hq]

theorem digit_p (X : Nat) (hX : X < 18446744073709551616) :
    (!decide (iand .u64 (X : Int) 1 = 0)) = decide (X % 2 = 1) ∧ IntKind.i64.wrap (iand .u64 (ishr .u64 (X : Int) 2) 31) = ((X / 4 % 32 : Nat) : Int) ∧ (!decide (iand .u64 (X : Int) 2 = 0)) = decide (X / 2 % 2 = 1) := by
  have a1 : iand .u64 (X : Int) 1 = ((X % 2 : Nat) : Int) := by rw [show (1 : Int) = ((1 : Nat) : Int) from rfl, iand_u64 X 1 hX (by omega), and_1]
  have a2 : iand .u64 (X : Int) 2 = ((2 * (X / 2 % 2) : Nat) : Int) := by rw [show (2 : Int) = ((2 : Nat) : Int) from rfl, iand_u64 X 2 hX (by omega), and_2]
  have a3 : iand .u64 (ishr .u64 (X : Int) 2) 31 = ((X / 4 % 32 : Nat) : Int) := by
    rw [show (2 : Int) = ((2 : Nat) : Int) from rfl, ishr_u64 X 2 (by omega), show (31 : Int) = ((31 : Nat) : Int) from rfl, iand_u64 _ 31 (by omega) (by omega), and_31]
  refine ⟨?_, ?_, ?_⟩
  · rw [a1]
    have : (((X % 2 : Nat) : Int) = 0) ↔ ¬ X % 2 = 1 := by omega
    exact not_dec this
  · rw [a3, wrap_i64 (by omega) (by omega)]
  · rw [a2]
    have : (((2 * (X / 2 % 2) : Nat) : Int) = 0) ↔ ¬ X / 2 % 2 = 1 := by omega
    exact not_dec this

theorem digit_r (X : Nat) (hX : X < 18446744073709551616) :
    decide (iand .u64 (iand .u64 (X : Int) 127) 1 = 1) = decide (X % 2 = 1) ∧ IntKind.i64.wrap (ishr .u64 (iand .u64 (X : Int) 127) 2) = ((X / 4 % 32 : Nat) : Int) ∧ decide (iand .u64 (iand .u64 (X : Int) 127) 2 = 2) = decide (X / 2 % 2 = 1) := by
  have a0 : iand .u64 (X : Int) 127 = ((X % 128 : Nat) : Int) := by rw [show (127 : Int) = ((127 : Nat) : Int) from rfl, iand_u64 X 127 hX (by omega), and_127]
  have a1 : iand .u64 ((X % 128 : Nat) : Int) 1 = ((X % 2 : Nat) : Int) := by rw [show (1 : Int) = ((1 : Nat) : Int) from rfl, iand_u64 _ 1 (by omega) (by omega), and_1]; congr 1; omega
  have a2 : iand .u64 ((X % 128 : Nat) : Int) 2 = ((2 * (X / 2 % 2) : Nat) : Int) := by rw [show (2 : Int) = ((2 : Nat) : Int) from rfl, iand_u64 _ 2 (by omega) (by omega), and_2]; congr 1; omega
  have a3 : ishr .u64 ((X % 128 : Nat) : Int) 2 = ((X / 4 % 32 : Nat) : Int) := by rw [show (2 : Int) = ((2 : Nat) : Int) from rfl, ishr_u64 _ 2 (by omega)]; congr 1; omega
  rw [a0]
  refine ⟨?_, ?_, ?_⟩
  · rw [a1]
    exact decide_eq_decide.2 (by omega)
  · rw [a3, wrap_i64 (by omega) (by omega)]
  · rw [a2]
    exact decide_eq_decide.2 (by omega)

theorem parse_L {k : Nat} (V : Nat) (nodes num : Int) (hV : V < 18446744073709551616) (hk : 5 < k) :
    view_Parse_L1_it k (V : Int) nodes ((0:Int), [], ()) (num, [], ()) 0 = some ((V : Int), nodes, ((0:Int), [], ()), (num, pms V 5, ()), ()) := by
  have L : ∃ o, view_Parse_L1_it k (V : Int) nodes ((0:Int), [], ()) (num, [], ()) 0 = some o ∧ o = ((V : Int), nodes, ((0:Int), [], ()), (num, pms V 5, ()), ()) := by
    refine iterO_inv (fun i s => s = ((V : Int), nodes, ((0:Int), [], ()), (num, pms V i, ()), (i : Int), ())) (fun o => o = ((V : Int), nodes, ((0:Int), [], ()), (num, pms V 5, ()), ())) 5 ?_ k hk _ (by simp [pms])
    rintro i s hi rfl
    by_cases h : i < 5
    · left
      have h1 : (decide ((i : Int) < 5)) = true := decide_eq_true (by omega)
      have hX : V / 2 ^ (7 * i) < 18446744073709551616 := Nat.lt_of_le_of_lt (Nat.div_le_self _ _) hV
      obtain ⟨d1, d2, d3⟩ := digit_p (V / 2 ^ (7 * i)) hX
      have hs : ishr .u64 (V : Int) ((7 * i : Nat) : Int) = ((V / 2 ^ (7 * i) : Nat) : Int) := ishr_u64 V (7 * i) (by omega)
      have hl := pms_len V i
      have h2 : ∀ x : TMember, decide ((pms V i).length + [x].length < 1073741824) = true := fun x => decide_eq_true (by simp; omega)
      refine ⟨((V : Int), nodes, ((0:Int), [], ()), (num, pms V (i + 1), ()), ((i + 1 : Nat) : Int), ()), ?_, h, rfl⟩
      simp only [view_Parse_L1, nx (show i < 2000 by omega), sh_i h, z0, h1, cond_true, hs, d1, d2, d3, h2, pms, pm]
      by_cases hb : V / 2 ^ (7 * i) % 2 = 1
      · simp only [hb, decide_true, cond_true, if_true]
      · simp only [hb, decide_false, cond_false, if_false, List.append_nil]
    · right
      have : i = 5 := by omega
      subst this
      exact ⟨_, by simp [view_Parse_L1], rfl⟩
  obtain ⟨o, h1, rfl⟩ := L
  exact h1

theorem rparse_L {k : Nat} (V : Nat) (nodes num : Int) (hV : V < 18446744073709551616) (hk : 5 < k) :
    bodegaref9_ParseView_L1_it k (V : Int) nodes ((0:Int), [], ()) (num, [], ()) 0 = some ((V : Int), nodes, ((0:Int), [], ()), (num, pms V 5, ()), ()) := by
  have L : ∃ o, bodegaref9_ParseView_L1_it k (V : Int) nodes ((0:Int), [], ()) (num, [], ()) 0 = some o ∧ o = ((V : Int), nodes, ((0:Int), [], ()), (num, pms V 5, ()), ()) := by
    refine iterO_inv (fun i s => s = ((V : Int), nodes, ((0:Int), [], ()), (num, pms V i, ()), (i : Int), ())) (fun o => o = ((V : Int), nodes, ((0:Int), [], ()), (num, pms V 5, ()), ())) 5 ?_ k hk _ (by simp [pms])
    rintro i s hi rfl
    by_cases h : i < 5
    · left
      have h1 : (decide ((i : Int) < 5)) = true := decide_eq_true (by omega)
      have hX : V / 2 ^ (7 * i) < 18446744073709551616 := Nat.lt_of_le_of_lt (Nat.div_le_self _ _) hV
      obtain ⟨d1, d2, d3⟩ := digit_r (V / 2 ^ (7 * i)) hX
      have hs : ishr .u64 (V : Int) ((7 * i : Nat) : Int) = ((V / 2 ^ (7 * i) : Nat) : Int) := ishr_u64 V (7 * i) (by omega)
      have hl := pms_len V i
      have h2 : ∀ x : TMember, decide ((pms V i).length + [x].length < 1073741824) = true := fun x => decide_eq_true (by simp; omega)
      refine ⟨((V : Int), nodes, ((0:Int), [], ()), (num, pms V (i + 1), ()), ((i + 1 : Nat) : Int), ()), ?_, h, rfl⟩
      simp only [bodegaref9_ParseView_L1, nx (show i < 2000 by omega), sh_i h, z0, h1, cond_true, hs, d1, d2, d3, h2, pms, pm]
      by_cases hb : V / 2 ^ (7 * i) % 2 = 1
      · simp only [hb, decide_true, cond_true, if_true]
      · simp only [hb, decide_false, cond_false, if_false, List.append_nil]
    · right
      have : i = 5 := by omega
      subst this
      exact ⟨_, by simp [bodegaref9_ParseView_L1], rfl⟩
  obtain ⟨o, h1, rfl⟩ := L
  exact h1

def parV (num : Int) (V : Nat) (nodes : Int) : TView × Int × Unit :=
  if vv (num, pms V 5, ()) nodes = 0 ∧ valI (num, pms V 5, ()) = (V : Int) then ((num, pms V 5, ()), 0, ()) else (((0:Int), [], ()), 14, ())

theorem parse_eq (k : Nat) (num : Int) (V : Nat) (nodes : Int) (hV : V < 18446744073709551616) (hk : 5 < k) : view_Parse k num (V : Int) nodes = some (parV num V nodes) := by
  have hl := pms_len V 5
  unfold view_Parse
  rw [parse_L V nodes num hV hk]
  simp only [Option.bind_some]
  rw [value_eq k _ (by simp only; omega) (by simp only; omega)]
  simp only [Option.bind_some]
  rw [valid_eq k _ nodes (by simp only; omega) (by simp only; omega)]
  unfold parV
  by_cases h5 : vv (num, pms V 5, ()) 5 = 0
  · by_cases hw : valI (num, pms V 5, ()) = (V : Int)
    · by_cases hn : vv (num, pms V 5, ()) nodes = 0 <;> simp [h5, hw, hn]
    · simp [h5, hw]
  · have hn : ¬ vv (num, pms V 5, ()) nodes = 0 := fun h => h5 ((vv_zero _ _).2 ((vv_zero _ _).1 h).mono)
    simp [h5, hn]

theorem rparse_eq (k : Nat) (num : Int) (V : Nat) (nodes : Int) (hV : V < 18446744073709551616) (hk : 5 < k) : bodegaref9_ParseView k num (V : Int) nodes = some (parV num V nodes) := by
  have hl := pms_len V 5
  unfold bodegaref9_ParseView
  rw [rparse_L V nodes num hV hk]
  simp only [Option.bind_some]
  rw [rvalid_eq k _ nodes (by simp only; omega) (by simp only; omega)]
  simp only [Option.bind_some]
  rw [rvalue_eq k _ (by simp only; omega) (by simp only; omega)]
  unfold parV
  by_cases hn : vv (num, pms V 5, ()) nodes = 0
  · by_cases hw : valI (num, pms V 5, ()) = (V : Int) <;> simp [hw, hn]
  · simp [hn]

/-! ### A valid view is parsed from its value -/
theorem dg_mem {m : TMember} (h : okM m) : dg m % 2 = 1 ∧ ((dg m / 4 % 32 : Nat) : Int) = m.2.1 ∧ decide (dg m / 2 % 2 = 1) = m.2.2.1 := by
  obtain ⟨_, _, h3, h4⟩ := h
  unfold dg
  cases m.2.2.1 <;> simp <;> omega

/-- members from lo on, in order -/
def chain (lo : Nat) : List TMember → Prop
  | [] => True
  | m :: ms => (lo : Int) ≤ m.1 ∧ okM m ∧ chain (m.1.toNat + 1) ms

theorem chain_mono : ∀ (ms : List TMember) (lo lo' : Nat), lo' ≤ lo → chain lo ms → chain lo' ms
  | [], _, _, _, _ => trivial
  | m :: ms, lo, lo', h, ⟨h1, h2, h3⟩ => ⟨by omega, h2, h3⟩

theorem chain_of (ms : List TMember) : ∀ (lo : Nat), (∀ i, i < ms.length → okM (ms.getD i ((0:Int), (0:Int), false, ()))) → (∀ i, i + 1 < ms.length → (ms.getD i ((0:Int), (0:Int), false, ())).1 < (ms.getD (i + 1) ((0:Int), (0:Int), false, ())).1) →
    (ms ≠ [] → (lo : Int) ≤ (ms.getD 0 ((0:Int), (0:Int), false, ())).1) → chain lo ms := by
  induction ms with
  | nil => intros; trivial
  | cons m ms ih =>
    intro lo h1 h2 h3
    have hm : okM m := h1 0 (by simp)
    refine ⟨h3 (by simp), hm, ih _ (fun i hi => h1 (i + 1) (by simpa using hi)) (fun i hi => h2 (i + 1) (by simpa using hi)) (fun hne => ?_)⟩
    have := h2 0 (by cases ms with | nil => exact absurd rfl hne | cons _ _ => simp)
    have h0 := hm.1
    have e : (List.getD (m :: ms) 0 ((0:Int), (0:Int), false, ())).1 = m.1 := rfl
    have e2 : (List.getD (m :: ms) (0 + 1) ((0:Int), (0:Int), false, ())) = ms.getD 0 ((0:Int), (0:Int), false, ()) := rfl
    rw [e, e2] at this
    omega

theorem sum_mul : ∀ (ms : List TMember) (lo : Nat), chain lo ms → ∃ q, sumN ms = 2 ^ (7 * lo) * q
  | [], lo, _ => ⟨0, by simp [sumN]⟩
  | m :: ms, lo, ⟨h1, h2, h3⟩ => by
    obtain ⟨q, hq⟩ := sum_mul ms _ h3
    have e1 : 2 ^ (7 * m.1.toNat) = 2 ^ (7 * lo) * 2 ^ (7 * m.1.toNat - 7 * lo) := by rw [← Nat.pow_add]; congr 1; omega
    have e2 : 2 ^ (7 * (m.1.toNat + 1)) = 2 ^ (7 * lo) * 2 ^ (7 * (m.1.toNat + 1) - 7 * lo) := by rw [← Nat.pow_add]; congr 1; omega
    refine ⟨dg m * 2 ^ (7 * m.1.toNat - 7 * lo) + 2 ^ (7 * (m.1.toNat + 1) - 7 * lo) * q, ?_⟩
    simp only [sumN]
    rw [hq, e1, e2, Nat.mul_add (2 ^ (7 * lo)) (dg m * _), Nat.mul_left_comm, Nat.mul_assoc]

/-- the rest of the members is what stands at lo and above -/
def pfrom (V : Nat) : Nat → Nat → List TMember
  | 0, _ => []
  | n + 1, lo => pm V lo ++ pfrom V n (lo + 1)

theorem pfrom_chain : ∀ (n lo : Nat) (ms : List TMember) (V r : Nat), n + lo = 5 → chain lo ms → r < 2 ^ (7 * lo) → V = 549755813888 + r + sumN ms → pfrom V n lo = ms
  | 0, lo, ms, V, r, hn, hc, _, _ => by
    have hlo : lo = 5 := by omega
    subst hlo
    cases ms with
    | nil => rfl
    | cons m ms => have := hc.1; have := hc.2.1.2.1; omega
  | n + 1, lo, ms, V, r, hn, hc, hr, hV => by
    have hpos : 0 < 2 ^ (7 * lo) := Nat.pow_pos (by omega)
    have e39 : 549755813888 = 2 ^ (7 * lo) * (128 * 2 ^ (32 - 7 * lo)) := by rw [show 128 = 2 ^ 7 from rfl, ← Nat.pow_add, ← Nat.pow_add]; rw [show 7 * lo + (7 + (32 - 7 * lo)) = 39 by omega]
    have e7 : 2 ^ (7 * (lo + 1)) = 2 ^ (7 * lo) * 128 := by rw [show 7 * (lo + 1) = 7 * lo + 7 by omega, Nat.pow_add]
    have skip : chain (lo + 1) ms → pfrom V (n + 1) lo = ms := by
      intro hc'
      obtain ⟨q, hq⟩ := sum_mul ms (lo + 1) hc'
      have hX : V / 2 ^ (7 * lo) = 128 * (2 ^ (32 - 7 * lo) + q) := by
        have : V = r + 2 ^ (7 * lo) * (128 * (2 ^ (32 - 7 * lo) + q)) := by
          rw [hV, hq, e7, e39, Nat.mul_add 128, Nat.mul_add, Nat.mul_assoc]; omega
        rw [this, Nat.add_mul_div_left _ _ hpos, Nat.div_eq_of_lt hr]
        omega
      have hpm : pm V lo = [] := by
        unfold pm
        rw [hX, if_neg (by omega)]
      simp only [pfrom, hpm, List.nil_append]
      exact pfrom_chain n (lo + 1) ms V r (by omega) hc' (Nat.lt_of_lt_of_le hr (Nat.pow_le_pow_right (by omega) (by omega))) hV
    cases ms with
    | nil => exact skip trivial
    | cons m ms =>
      by_cases hm : m.1 = (lo : Int)
      · have hto : m.1.toNat = lo := by omega
        obtain ⟨hc1, hc2, hc3⟩ := hc
        rw [hto] at hc3
        obtain ⟨q, hq⟩ := sum_mul ms (lo + 1) hc3
        have hd := dg_lt hc2
        obtain ⟨g1, g2, g3⟩ := dg_mem hc2
        have hX : V / 2 ^ (7 * lo) = dg m + 128 * (2 ^ (32 - 7 * lo) + q) := by
          have : V = r + 2 ^ (7 * lo) * (dg m + 128 * (2 ^ (32 - 7 * lo) + q)) := by
            rw [hV]
            simp only [sumN]
            rw [hq, hto, e7, e39, Nat.mul_add, Nat.mul_add 128, Nat.mul_add, Nat.mul_assoc, Nat.mul_comm (dg m)]
            omega
          rw [this, Nat.add_mul_div_left _ _ hpos, Nat.div_eq_of_lt hr]
          omega
        have hpm : pm V lo = [m] := by
          unfold pm
          have k1 : (dg m + 128 * (2 ^ (32 - 7 * lo) + q)) % 2 = dg m % 2 := by omega
          have k2 : (dg m + 128 * (2 ^ (32 - 7 * lo) + q)) / 4 % 32 = dg m / 4 % 32 := by omega
          have k3 : (dg m + 128 * (2 ^ (32 - 7 * lo) + q)) / 2 % 2 = dg m / 2 % 2 := by omega
          rw [hX, k1, k2, k3, if_pos g1, g2, g3, ← hm]
        simp only [pfrom, hpm, List.singleton_append]
        rw [pfrom_chain n (lo + 1) ms V (r + dg m * 2 ^ (7 * lo)) (by omega) hc3 (by
          rw [e7]
          have : dg m * 2 ^ (7 * lo) ≤ 127 * 2 ^ (7 * lo) := Nat.mul_le_mul_right _ (by omega)
          omega) (by rw [hV]; simp only [sumN]; rw [hto]; omega)]
      · exact skip ⟨by have := hc.1; omega, hc.2.1, hc.2.2⟩

theorem parse_back {v : TView} (g : Good v 5) : pms (549755813888 + sumN v.2.1) 5 = v.2.1 := by
  have hc : chain 0 v.2.1 := chain_of _ 0 (fun i hi => g.okM hi) g.asc (fun hne => by
    have := (g.okM (i := 0) (List.length_pos_iff.2 hne)).1
    simpa using this)
  have := pfrom_chain 5 0 v.2.1 (549755813888 + sumN v.2.1) 0 rfl hc (by simp) (by omega)
  refine Eq.trans ?_ this
  simp only [pms, pfrom, List.nil_append, List.append_assoc, List.append_nil]

theorem sum_bound {v : TView} (g : Good v 5) : 549755813888 + sumN v.2.1 < 1099511627776 := by
  have hne := g.ne
  have hl := List.length_pos_iff.2 hne
  have h := sum_lt g (v.2.1.length - 1) (by omega)
  have hm := g.okM (i := v.2.1.length - 1) (by omega)
  have hd := dg_lt hm
  have ht : v.2.1.take (v.2.1.length - 1 + 1) = v.2.1.take (v.2.1.length - 1) ++ [v.2.1.getD (v.2.1.length - 1) ((0:Int), (0:Int), false, ())] := by rw [getD_lt (by omega), List.take_succ_eq_append_getElem (by omega)]
  rw [show v.2.1.length - 1 + 1 = v.2.1.length by omega, List.take_length] at ht
  have e : sumN v.2.1 = sumN (v.2.1.take (v.2.1.length - 1)) + dg (v.2.1.getD (v.2.1.length - 1) ((0:Int), (0:Int), false, ())) * 2 ^ (7 * (v.2.1.getD (v.2.1.length - 1) ((0:Int), (0:Int), false, ())).1.toNat) := by
    rw [← Nat.add_zero (_ * _)]
    have := congrArg sumN ht
    rw [sumN_append] at this
    exact this
  rw [e]
  generalize v.2.1.getD (v.2.1.length - 1) ((0:Int), (0:Int), false, ()) = m at *
  have hp : 2 ^ (7 * m.1.toNat) ≤ 2 ^ 28 := Nat.pow_le_pow_right (by omega) (by have := hm.2.1; omega)
  have hb : dg m * 2 ^ (7 * m.1.toNat) ≤ 127 * 2 ^ 28 := Nat.mul_le_mul (by omega) hp
  omega

end Go.Proofs.Ytjbnedjlcpdekaa.N

namespace Go.Proofs.Ytjbnedjlcpdekaa.N
open Go.VL

/-! ### Any view -/
theorem view_L (k : Nat) (mask full : Int) (boots : List Int) (t v0 : TView) (any0 : Bool) (hv : v0.2.1 = []) (hb : boots.length ≤ 1000) (hk : 5 < k) :
    ∃ o, bodegahand_View_L1_it k mask full boots 5 t v0 any0 0 = some o ∧ o.2.1.2.1.length ≤ 5 := by
  refine iterO_inv (fun i (s : Int × Int × List Int × Int × TView × TView × Bool × Int × Unit) => s.1 = mask ∧ s.2.1 = full ∧ s.2.2.1 = boots ∧ s.2.2.2.1 = 5 ∧ s.2.2.2.2.2.1.2.1.length ≤ i ∧ s.2.2.2.2.2.2.2.1 = (i : Int)) (fun (o : TView × TView × Bool × Unit) => o.2.1.2.1.length ≤ 5) 5 ?_ k hk _ (by simp [hv])
  rintro i ⟨s1, s2, s3, s4, s5, s6, s7, s8, s9⟩ hi ⟨rfl, rfl, rfl, rfl, h6, rfl⟩
  simp only at h6
  by_cases h : i < 5
  · left
    have h1 : (decide ((i : Int) < 5)) = true := decide_eq_true (by omega)
    have hw : IntKind.u64.wrap (i : Int) = (i : Int) := wrap_u64 (by omega) (by omega)
    simp only [bodegahand_View_L1, h1, cond_true, pick_pos k s1 32 (by omega) (by omega), pick_pos k s2 32 (by omega) (by omega), Option.bind_some, hw, z0, nx (show i < 2000 by omega)]
    by_cases hc : iand .i64 (ishr .i64 (s1 % 32) (i : Int)) 1 = 0
    · simp only [hc, decide_true, cond_true]
      exact ⟨_, rfl, h, rfl, rfl, rfl, rfl, by simp only; omega, rfl⟩
    · simp only [hc, decide_false, cond_false]
      have hl : ∀ x : TMember, decide (s6.2.1.length + [x].length < 1073741824) = true := fun x => decide_eq_true (by simp; omega)
      by_cases hbt : (i : Int) < (s3.length : Int)
      · have hj : ∀ x : Int, bodegahand_Pick k x 31 = some (x % 31, ()) := fun x => pick_pos k x 31 (by omega) (by omega)
        simp only [bodegahand_View_J1, hbt, decide_true, cond_true, z0, Bool.and_self, hj, Option.bind_some, hl, nx (show i < 2000 by omega)]
        exact ⟨_, rfl, h, rfl, rfl, rfl, rfl, by simp only [List.length_append, List.length_singleton]; omega, rfl⟩
      · simp only [bodegahand_View_J1, hbt, decide_false, cond_false, Option.bind_some, hl, cond_true, nx (show i < 2000 by omega)]
        exact ⟨_, rfl, h, rfl, rfl, rfl, rfl, by simp only [List.length_append, List.length_singleton]; omega, rfl⟩
  · right
    have : i = 5 := by omega
    subst this
    exact ⟨_, by simp only [bodegahand_View_L1]; rfl, h6⟩

theorem view_ex (k : Nat) (num mask full : Int) (boots : List Int) (hb : boots.length ≤ 1000) (hk : 5 < k) :
    ∃ v, bodegahand_View k num mask full boots 5 = some (v, ()) ∧ 1 ≤ v.2.1.length ∧ v.2.1.length ≤ 5 := by
  unfold bodegahand_View
  rw [pick_pos k num 16 (by omega) (by omega)]
  simp only [Option.bind_some]
  obtain ⟨o, ho, hl⟩ := view_L k mask full boots ((0:Int), [], ()) (num % 16, [], ()) false rfl hb hk
  rw [ho]
  simp only [Option.bind_some]
  obtain ⟨v, hv, h1, h2⟩ : ∃ o', bodegahand_View_J2 k o.1 o.2.1 o.2.2.1 (decide ((o.2.1.2.1.length : Int) = 0)) = some o' ∧ 1 ≤ o'.2.1.2.1.length ∧ o'.2.1.2.1.length ≤ 5 := by
    by_cases h : (o.2.1.2.1.length : Int) = 0
    · simp only [bodegahand_View_J2, h, decide_true, cond_true]
      exact ⟨_, rfl, by simp, by simp⟩
    · simp only [bodegahand_View_J2, h, decide_false, cond_false]
      exact ⟨_, rfl, by simp only; omega, hl⟩
  rw [hv]
  simp only [Option.bind_some]
  cases v.2.2.1 with
  | true => exact ⟨v.2.1, rfl, h1, h2⟩
  | false =>
    have : (decide ((0:Int) ≤ (0:Int)) && decide ((0:Int) < (v.2.1.2.1.length : Int))) = true := by simp; omega
    simp only [Bool.not_false, cond_true, this]
    exact ⟨_, rfl, by simpa using h1, by simpa using h2⟩

theorem of_L (k : Nat) (t v : TView) (hk : v.2.1.length < k) (hl : v.2.1.length ≤ 1000) : ∃ o, bodegalaw10_of_L1_it k t v 0 = some o ∧ o.2.1.2.1.length = v.2.1.length := by
  refine iterO_inv (fun i (s : TView × TView × Int × Unit) => s.2.1.2.1.length = v.2.1.length ∧ s.2.2.1 = (i : Int)) (fun (o : TView × TView × Unit) => o.2.1.2.1.length = v.2.1.length) v.2.1.length ?_ k hk _ ⟨rfl, rfl⟩
  rintro i ⟨s1, s2, s3, s4⟩ hi ⟨h1, rfl⟩
  simp only at h1
  by_cases h : i < v.2.1.length
  · left
    have h2 : (decide ((i : Int) < (s2.2.1.length : Int))) = true := decide_eq_true (by omega)
    simp only [bodegalaw10_of_L1, h2, z0, Bool.and_self, cond_true, nx (show i < 2000 by omega)]
    exact ⟨_, rfl, h, by simpa using h1, rfl⟩
  · right
    have h2 : (decide ((i : Int) < (s2.2.1.length : Int))) = false := decide_eq_false (by omega)
    simp only [bodegalaw10_of_L1, h2, cond_false]
    exact ⟨_, rfl, h1⟩

theorem of_ex (k : Nat) (r : TRaw) (hb : r.2.2.2.2.2.1.length ≤ 1000) (hk : 5 < k) : ∃ v, bodegalaw10_of k r = some (v, ()) ∧ v.2.1.length ≤ 5 := by
  unfold bodegalaw10_of
  obtain ⟨v, hv, h1, h2⟩ := view_ex k r.1 r.2.1 r.2.2.1 r.2.2.2.2.2.1 hb hk
  rw [hv]
  simp only [Option.bind_some]
  have hp : ∀ n t : Int, 1 ≤ t → t ≤ 100 → bodegahand_Pick k n t = some (n % t, ()) := fun n t h h' => pick_pos k n t h (by omega)
  rw [hp _ (v.2.1.length : Int) (by omega) (by omega), hp _ 16 (by omega) (by omega), hp _ 20 (by omega) (by omega), hp _ 8 (by omega) (by omega), hp _ 36 (by omega) (by omega)]
  simp only [Option.bind_some]
  have hin : (decide ((0:Int) ≤ r.2.2.2.2.1 % (v.2.1.length : Int)) && decide (r.2.2.2.2.1 % (v.2.1.length : Int) < (v.2.1.length : Int))) = true := by
    have a := Int.emod_nonneg r.2.2.2.2.1 (show (v.2.1.length : Int) ≠ 0 by omega)
    have b := Int.emod_lt_of_pos r.2.2.2.2.1 (show (0:Int) < (v.2.1.length : Int) by omega)
    simp only [Bool.and_eq_true, decide_eq_true_eq]
    exact ⟨a, b⟩
  simp only [hin, cond_true]
  by_cases c0 : r.2.2.2.1 % 16 = 0
  · simp only [c0, decide_true, cond_true]
    exact ⟨_, rfl, h2⟩
  simp only [c0, decide_false, cond_false]
  by_cases c1 : r.2.2.2.1 % 16 = 1
  · simp only [c1, decide_true, cond_true]
    exact ⟨_, rfl, by simpa using h2⟩
  simp only [c1, decide_false, cond_false]
  by_cases c2 : r.2.2.2.1 % 16 = 2
  · simp only [c2, decide_true, cond_true]
    exact ⟨_, rfl, by simpa using h2⟩
  simp only [c2, decide_false, cond_false]
  by_cases c3 : r.2.2.2.1 % 16 = 3
  · simp only [c3, decide_true, cond_true]
    obtain ⟨o, ho, hl⟩ := of_L k ((0:Int), [], ()) v (by omega) (by omega)
    rw [ho]
    exact ⟨_, rfl, by omega⟩
  simp only [c3, decide_false, cond_false]
  by_cases c4 : r.2.2.2.1 % 16 = 4
  · simp only [c4, decide_true, cond_true]
    exact ⟨_, rfl, by simp⟩
  simp only [c4, decide_false, cond_false]
  exact ⟨_, rfl, h2⟩

end Go.Proofs.Ytjbnedjlcpdekaa.N

namespace Go.Proofs.Ytjbnedjlcpdekaa.N
open Go.VL

theorem parV_len (num : Int) (V : Nat) (nodes : Int) : (parV num V nodes).1.2.1.length ≤ 5 := by
  unfold parV
  split
  · exact pms_len V 5
  · simp

theorem initV_len (n : Int) : (initV n).1.2.1.length ≤ 5 := by
  unfold initV
  split
  · rename_i h; simp only [initM_len]; omega
  · simp

theorem ixor_nat (a b : Int) : ∃ N : Nat, N < 18446744073709551616 ∧ ixor .u64 a b = (N : Int) := by
  refine ⟨(BitVec.ofInt 64 a ^^^ BitVec.ofInt 64 b).toNat, (BitVec.ofInt 64 a ^^^ BitVec.ofInt 64 b).isLt, ?_⟩
  show IntKind.u64.wrap ((BitVec.ofInt 64 a ^^^ BitVec.ofInt 64 b).toNat : Int) = _
  exact wrap_u64_nat _ (BitVec.ofInt 64 a ^^^ BitVec.ofInt 64 b).isLt

theorem values_true (k : Nat) (hk : 2000 ≤ k) (r : TRaw) (number value nodes bit : Int) (h0 : 0 ≤ value) (h1 : value < 18446744073709551616) : bodegalaw10_ViewValues k r number value nodes bit = some (true, ()) := by
  unfold bodegalaw10_ViewValues
  by_cases hl : (8 : Int) < (r.2.2.2.2.2.1.length : Int)
  · simp [hl]
  simp only [hl, decide_false, cond_false]
  obtain ⟨v, hv, hvl⟩ := of_ex k r (by omega) (by omega)
  rw [hv]
  simp only [Option.bind_some]
  have hp : ∀ n t : Int, 1 ≤ t → t ≤ 200 → bodegahand_Pick k n t = some (n % t, ()) := fun n t h h' => pick_pos k n t h (by omega)
  rw [hp nodes 8 (by omega) (by omega), value_eq k v (by omega) (by omega), rvalue_eq k v (by omega) (by omega), hp bit 128 (by omega) (by omega), awake_eq k (by omega)]
  simp only [Option.bind_some, decide_true, Bool.not_true, cond_false, Bool.not_false, cond_true]
  have hm : 0 ≤ bit % 128 ∧ bit % 128 < 128 := ⟨Int.emod_nonneg _ (by omega), Int.emod_lt_of_pos _ (by omega)⟩
  have ht : (bit % 128).tmod 64 = bit % 128 % 64 := Int.tmod_eq_emod_of_nonneg hm.1
  have ht2 : 0 ≤ bit % 128 % 64 ∧ bit % 128 % 64 < 64 := ⟨Int.emod_nonneg _ (by omega), Int.emod_lt_of_pos _ (by omega)⟩
  have hsh : decide ((0:Int) ≤ IntKind.u64.wrap ((bit % 128).tmod 64)) = true := by
    rw [ht, wrap_u64 ht2.1 (by omega)]
    exact decide_eq_true ht2.1
  simp only [hsh, cond_true]
  obtain ⟨N, hN, hx⟩ := ixor_nat (valI v) (IntKind.u64.wrap (ishl .u64 1 (IntKind.u64.wrap ((bit % 128).tmod 64)) * IntKind.u64.wrap (IntKind.i64.wrap ((bit % 128).tdiv 64))))
  rw [hx]
  have hval : value = ((value.toNat : Nat) : Int) := by omega
  rw [parse_eq k v.1 N _ hN (by omega), rparse_eq k v.1 N _ hN (by omega), hval, parse_eq k number value.toNat nodes (by omega) (by omega), rparse_eq k number value.toNat nodes (by omega) (by omega), initial_eq k nodes (by omega), rinitial_eq k nodes (by omega)]
  have l1 := parV_len v.1 N (IntKind.i64.wrap (nodes % 8 - 1))
  have l2 := parV_len number value.toNat nodes
  have l3 := initV_len nodes
  simp only [Option.bind_some, decide_true, cond_true]
  rw [same_eq k _ _ (by omega) (by omega), same_eq k _ _ (by omega) (by omega), same_eq k _ _ (by omega) (by omega)]
  simp

theorem valid_true (k : Nat) (hk : 2000 ≤ k) (v : TView) (r t : TRaw) (nodes : Int) : bodegalaw10_ViewValid k v r t nodes = some (true, ()) := by
  unfold bodegalaw10_ViewValid
  by_cases hg : (bif (bif decide ((12:Int) < (v.2.1.length : Int)) then true else decide ((8:Int) < (r.2.2.2.2.2.1.length : Int))) then true else decide ((8:Int) < (t.2.2.2.2.2.1.length : Int))) = true
  · rw [hg]; rfl
  · have hg : (bif (bif decide ((12:Int) < (v.2.1.length : Int)) then true else decide ((8:Int) < (r.2.2.2.2.2.1.length : Int))) then true else decide ((8:Int) < (t.2.2.2.2.2.1.length : Int))) = false := by simpa using hg
    rw [hg]
    by_cases c1 : (12:Int) < (v.2.1.length : Int)
    · simp [c1] at hg
    by_cases c2 : (8:Int) < (r.2.2.2.2.2.1.length : Int)
    · simp [c1, c2] at hg
    by_cases c3 : (8:Int) < (t.2.2.2.2.2.1.length : Int)
    · simp [c1, c2, c3] at hg
    simp only [cond_false]
    obtain ⟨a, ha, hal⟩ := of_ex k r (by omega) (by omega)
    obtain ⟨b, hb, hbl⟩ := of_ex k t (by omega) (by omega)
    rw [ha, hb, pick_pos k nodes 8 (by omega) (by omega), awake_eq k (by omega)]
    simp only [Option.bind_some, cond_true]
    rw [valid_eq k v _ (by omega) (by omega), rvalid_eq k v _ (by omega) (by omega), valid_eq k a _ (by omega) (by omega), rvalid_eq k a _ (by omega) (by omega), vsame_eq k a b (by omega) (by omega), same_eq k a b (by omega) (by omega),
      vsame_eq k a a (by omega) (by omega), vsame_eq k v a (by omega) (by omega), same_eq k v a (by omega) (by omega)]
    simp

theorem vv_range (v : TView) (n : Int) : 0 ≤ vv v n ∧ vv v n ≤ 13 := by
  unfold vv
  split
  · omega
  split
  · omega
  split
  · omega
  split
  · omega
  split
  · omega
  split <;> omega

theorem back_of {a : TView} (ga : vv a 5 = 0) : ∃ V : Nat, valI a = (V : Int) ∧ V < 1099511627776 ∧ parV a.1 V 5 = (a, 0, ()) := by
  have Ga := (vv_zero _ _).1 ga
  have va : valI a = ((549755813888 + sumN a.2.1 : Nat) : Int) := by unfold valI; rw [if_pos ga]
  refine ⟨_, va, sum_bound Ga, ?_⟩
  unfold parV
  rw [parse_back Ga]
  have : (a.1, a.2.1, ()) = a := rfl
  rw [this, if_pos ⟨ga, va⟩]

theorem valI_inj {a b : TView} (ga : vv a 5 = 0) (gb : vv b 5 = 0) (e : a.1 = b.1) : valI a = valI b ↔ a = b := by
  obtain ⟨V, va, _, pa⟩ := back_of ga
  obtain ⟨W, vb, _, pb⟩ := back_of gb
  constructor
  · intro h
    rw [va, vb] at h
    have h : V = W := by omega
    rw [h, e, pb] at pa
    exact (congrArg Prod.fst pa).symm
  · intro h; rw [h]

theorem back_true (k : Nat) (hk : 2000 ≤ k) (r t : TRaw) : bodegalaw10_ViewBack k r t = some (true, ()) := by
  unfold bodegalaw10_ViewBack
  by_cases c2 : (8:Int) < (r.2.2.2.2.2.1.length : Int)
  · simp [c2]
  by_cases c3 : (8:Int) < (t.2.2.2.2.2.1.length : Int)
  · simp [c2, c3]
  simp only [c2, c3, decide_false, cond_false]
  obtain ⟨a, ha, hal⟩ := of_ex k r (by omega) (by omega)
  obtain ⟨b, hb, hbl⟩ := of_ex k t (by omega) (by omega)
  rw [ha, hb]
  simp only [Option.bind_some]
  have hbl' : ((a.1, b.2) : TView).2.1.length ≤ 5 := hbl
  generalize hB : ((a.1, b.2) : TView) = B at *
  have e1 : B.1 = a.1 := by rw [← hB]
  rw [valid_eq k a 5 (by omega) (by omega), valid_eq k B 5 (by omega) (by omega), rvalid_eq k a 5 (by omega) (by omega), rvalid_eq k B 5 (by omega) (by omega), value_eq k a (by omega) (by omega), value_eq k B (by omega) (by omega), awake_eq k (by omega)]
  simp only [Option.bind_some, cond_true]
  by_cases ga : vv a 5 = 0
  · by_cases gb : vv B 5 = 0
    · obtain ⟨V, va, ba, pa⟩ := back_of ga
      have inj := valI_inj ga gb e1.symm
      rw [va, parse_eq k a.1 _ 5 (by omega) (by omega), pa]
      simp only [Option.bind_some, ga, gb, decide_true, Bool.not_true, cond_false, cond_true, Bool.not_false]
      rw [same_eq k a a (by omega) (by omega), same_eq k a B (by omega) (by omega)]
      rw [va] at inj
      have : (V : Int) < 1099511627776 := by omega
      have h1 : (decide ((V : Int) = valI B) == decide (a = B)) = true := by rw [decide_eq_decide.2 inj]; exact beq_self_eq_true _
      have h2 := decide_eq_true this
      simp only [Option.bind_some, decide_true, cond_true]
      rw [h1, h2]
      rfl
    · simp only [ga, gb, decide_true, decide_false, Bool.not_true, Bool.not_false, cond_true, cond_false, Option.bind_some]
      have : IntKind.i64.wrap (vv B 5) = vv B 5 := by
        have := vv_range B 5
        rw [wrap_i64 (by omega) (by omega)]
      simp [this, gb]
  · simp only [ga, decide_false, Bool.not_false, cond_true, Bool.not_true, cond_false, Option.bind_some]
    have r1 := vv_range a 5
    have r2 := vv_range B 5
    have : IntKind.i64.wrap (vv a 5 + vv B 5) = vv a 5 + vv B 5 := wrap_i64 (by omega) (by omega)
    have h : ¬ vv a 5 + vv B 5 = 0 := by omega
    simp [this, h]

end Go.Proofs.Ytjbnedjlcpdekaa.N
