import Derived.Test.YtkgjdglkkoabmaaGreatV3
import Derived.Test.YtkgjdglkkoabmaaGreatN3

namespace Go.VL

/-! ### Loops -/
theorem iterO_inv {S O : Type} {f : S → Option (S ⊕ O)} (Inv : Nat → S → Prop) (Post : O → Prop) (n : Nat)
    (hs : ∀ i s, i ≤ n → Inv i s → (∃ s', f s = some (.inl s') ∧ i < n ∧ Inv (i + 1) s') ∨ ∃ o, f s = some (.inr o) ∧ Post o) :
    ∀ (k : Nat), n < k → ∀ s0, Inv 0 s0 → ∃ o, iterO f k s0 = some o ∧ Post o := by
  have key : ∀ (m i : Nat) (s : S), i + m = n → Inv i s → ∀ k, m < k → ∃ o, iterO f k s = some o ∧ Post o := by
    intro m
    induction m with
    | zero =>
      intro i s hi h k hk
      obtain ⟨k, rfl⟩ : ∃ j, k = j + 1 := ⟨k - 1, by omega⟩
      rcases hs i s (by omega) h with ⟨s', _, hlt, _⟩ | ⟨o, ho, hp⟩
      · omega
      · exact ⟨o, by simp [iterO, ho], hp⟩
    | succ m ih =>
      intro i s hi h k hk
      obtain ⟨k, rfl⟩ : ∃ j, k = j + 1 := ⟨k - 1, by omega⟩
      rcases hs i s (by omega) h with ⟨s', he, _, h'⟩ | ⟨o, ho, hp⟩
      · obtain ⟨o, h1, h2⟩ := ih (i + 1) s' (by omega) h' k (by omega)
        exact ⟨o, by simp [iterO, he, h1], h2⟩
      · exact ⟨o, by simp [iterO, ho], hp⟩
  exact fun k hk s0 h0 => key n 0 s0 (by omega) h0 k hk

/-- a search: the first that is found decides -/
theorem iterO_find {S O : Type} {f : S → Option (S ⊕ O)} (st : Nat → S) (p : Nat → Bool) (ox : Nat → O) (oe : O) (n : Nat)
    (hs : ∀ i, i < n → f (st i) = some (bif p i then .inr (ox i) else .inl (st (i + 1)))) (he : f (st n) = some (.inr oe)) :
    ∀ k, n < k → iterO f k (st 0) = some (((List.range n).find? p).elim oe ox) := by
  have key : ∀ (m i : Nat), i + m = n → ∀ k, m < k → iterO f k (st i) = some (((List.range' i m).find? p).elim oe ox) := by
    intro m
    induction m with
    | zero =>
      intro i hi k hk
      obtain ⟨k, rfl⟩ : ∃ j, k = j + 1 := ⟨k - 1, by omega⟩
      have : i = n := by omega
      subst this
      simp [iterO, he]
    | succ m ih =>
      intro i hi k hk
      obtain ⟨k, rfl⟩ : ∃ j, k = j + 1 := ⟨k - 1, by omega⟩
      simp only [iterO, hs i (by omega), Option.bind_some, List.range'_succ, List.find?_cons]
      cases hp : p i with
      | true => simp
      | false => simpa using ih (i + 1) (by omega) k (by omega)
  intro k hk
  rw [key n 0 (by omega) k hk, List.range_eq_range']

/-- a loop that counts through -/
theorem iterO_fold {S O σ : Type} {f : S → Option (S ⊕ O)} (st : Nat → σ → S) (g : Nat → σ → σ) (I : Nat → σ → Prop) (fin : σ → O) (n : Nat)
    (hs : ∀ i a, i < n → I i a → f (st i a) = some (.inl (st (i + 1) (g i a))) ∧ I (i + 1) (g i a)) (he : ∀ a, I n a → f (st n a) = some (.inr (fin a))) :
    ∀ k, n < k → ∀ a, I 0 a → iterO f k (st 0 a) = some (fin ((List.range n).foldl (fun a i => g i a) a)) := by
  have key : ∀ (m i : Nat) (a : σ), i + m = n → I i a → ∀ k, m < k → iterO f k (st i a) = some (fin ((List.range' i m).foldl (fun a i => g i a) a)) := by
    intro m
    induction m with
    | zero =>
      intro i a hi h k hk
      obtain ⟨k, rfl⟩ : ∃ j, k = j + 1 := ⟨k - 1, by omega⟩
      have : i = n := by omega
      subst this
      simp [iterO, he a h]
    | succ m ih =>
      intro i a hi h k hk
      obtain ⟨k, rfl⟩ : ∃ j, k = j + 1 := ⟨k - 1, by omega⟩
      obtain ⟨h1, h2⟩ := hs i a (by omega) h
      simp only [iterO, h1, Option.bind_some, List.range'_succ, List.foldl_cons]
      simpa using ih (i + 1) (g i a) (by omega) h2 k (by omega)
  intro k hk a h
  rw [key n 0 a (by omega) h k hk, List.range_eq_range']

/-! ### Numbers -/
theorem wrap_i64 {x : Int} (h1 : -9223372036854775808 ≤ x) (h2 : x < 9223372036854775808) : IntKind.i64.wrap x = x := by
  simp only [IntKind.wrap, IntKind.bits, IntKind.signed]
  simp
  omega

theorem wrap_u64 {x : Int} (h1 : 0 ≤ x) (h2 : x < 18446744073709551616) : IntKind.u64.wrap x = x := by
  simp only [IntKind.wrap, IntKind.bits, IntKind.signed]
  simp
  omega

theorem wrap_u64_nat (x : Nat) (h : x < 18446744073709551616) : IntKind.u64.wrap (x : Int) = (x : Int) := wrap_u64 (by omega) (by omega)

theorem bv_nat (x : Nat) (h : x < 18446744073709551616) : (BitVec.ofInt 64 (x : Int)).toNat = x := by
  rw [BitVec.ofInt_natCast, BitVec.toNat_ofNat]
  omega

theorem iand_u64 (x y : Nat) (hx : x < 18446744073709551616) (hy : y < 18446744073709551616) : iand .u64 (x : Int) (y : Int) = ((x &&& y : Nat) : Int) := by
  show IntKind.u64.wrap ((BitVec.ofInt 64 (x : Int) &&& BitVec.ofInt 64 (y : Int)).toNat : Int) = _
  rw [BitVec.toNat_and, bv_nat x hx, bv_nat y hy]
  exact wrap_u64_nat _ (Nat.lt_of_le_of_lt Nat.and_le_left hx)

theorem ior_u64 (x y : Nat) (hx : x < 18446744073709551616) (hy : y < 18446744073709551616) : ior .u64 (x : Int) (y : Int) = ((x ||| y : Nat) : Int) := by
  show IntKind.u64.wrap ((BitVec.ofInt 64 (x : Int) ||| BitVec.ofInt 64 (y : Int)).toNat : Int) = _
  rw [BitVec.toNat_or, bv_nat x hx, bv_nat y hy]
  exact wrap_u64_nat _ (Nat.or_lt_two_pow (n := 64) hx hy)

theorem ixor_u64 (x y : Nat) (hx : x < 18446744073709551616) (hy : y < 18446744073709551616) : ixor .u64 (x : Int) (y : Int) = ((x ^^^ y : Nat) : Int) := by
  show IntKind.u64.wrap ((BitVec.ofInt 64 (x : Int) ^^^ BitVec.ofInt 64 (y : Int)).toNat : Int) = _
  rw [BitVec.toNat_xor, bv_nat x hx, bv_nat y hy]
  exact wrap_u64_nat _ (Nat.xor_lt_two_pow (n := 64) hx hy)

theorem ishl_u64 (x s : Nat) (hs : s ≤ 64) (h : x * 2 ^ s < 18446744073709551616) : ishl .u64 (x : Int) (s : Int) = ((x * 2 ^ s : Nat) : Int) := by
  have e : min s 64 = s := by omega
  show IntKind.u64.wrap ((x : Int) * 2 ^ (min ((s : Int).toNat) 64)) = _
  rw [Int.toNat_natCast, e]
  have := wrap_u64_nat _ h
  push_cast at this ⊢
  exact this

theorem ishr_u64 (x s : Nat) (hs : s ≤ 64) : ishr .u64 (x : Int) (s : Int) = ((x / 2 ^ s : Nat) : Int) := by
  have e : min s 64 = s := by omega
  show (x : Int).fdiv (2 ^ (min ((s : Int).toNat) 64)) = _
  rw [Int.toNat_natCast, e, Int.fdiv_eq_ediv_of_nonneg _ (by exact Int.le_of_lt (Int.pow_pos (by omega)))]
  push_cast
  rfl

theorem and_pow (x n : Nat) : x &&& (2 ^ n - 1) = x % 2 ^ n := Nat.and_two_pow_sub_one_eq_mod x n
theorem and_1 (x : Nat) : x &&& 1 = x % 2 := and_pow x 1
theorem and_2 (x : Nat) : x &&& 2 = 2 * (x / 2 % 2) := by
  apply Nat.eq_of_testBit_eq
  intro i
  rw [Nat.testBit_and, show (2 : Nat) = 2 ^ 1 from rfl, Nat.testBit_two_pow, Nat.testBit_two_pow_mul]
  by_cases h : i = 1
  · subst h; simp [Nat.testBit, Nat.shiftRight_eq_div_pow]
  · by_cases h0 : 1 ≤ i
    · obtain ⟨j, rfl⟩ : ∃ j, i = j + 2 := ⟨i - 2, by omega⟩
      have h1 : (x / 2 % 2).testBit (j + 2 - 1) = false := Nat.testBit_lt_two_pow (Nat.lt_of_lt_of_le (Nat.mod_lt _ (by omega)) (Nat.pow_le_pow_right (n := 2) (by omega) (by omega : 1 ≤ j + 2 - 1)))
      have h2 : decide (1 = j + 2) = false := by simp
      rw [h1, h2]
      simp
    · simp [h0]; omega
theorem and_31 (x : Nat) : x &&& 31 = x % 32 := and_pow x 5
theorem and_127 (x : Nat) : x &&& 127 = x % 128 := and_pow x 7

theorem getD_lt {α : Type} {xs : List α} {i : Nat} {d : α} (h : i < xs.length) : xs.getD i d = xs[i] := by simp [List.getD, h]

end Go.VL

namespace Go.VL

/-! ### A computation ends, with what holds of its end -/
def Ok {α : Type} (o : Option α) (P : α → Prop) : Prop := ∃ a, o = some a ∧ P a

theorem Ok.pure {α : Type} {a : α} {P : α → Prop} (h : P a) : Ok (some a) P := ⟨a, rfl, h⟩
theorem Ok.bind {α β : Type} {o : Option α} {f : α → Option β} {P : α → Prop} {Q : β → Prop} (h : Ok o P) (g : ∀ a, P a → Ok (f a) Q) : Ok (Option.bind o f) Q := by
  obtain ⟨a, rfl, hp⟩ := h
  exact g a hp
theorem Ok.eqb {α β : Type} {o : Option α} {f : α → Option β} {a : α} {Q : β → Prop} (h : o = some a) (g : Ok (f a) Q) : Ok (Option.bind o f) Q := by
  subst h
  exact g
theorem Ok.grd {α : Type} {c : Bool} {x y : Option α} {P : α → Prop} (hc : c = true) (h : Ok x P) : Ok (bif c then x else y) P := by
  subst hc
  exact h
theorem Ok.els {α : Type} {c : Bool} {x y : Option α} {P : α → Prop} (hc : c = false) (h : Ok y P) : Ok (bif c then x else y) P := by
  subst hc
  exact h
theorem Ok.ite {α : Type} {c : Bool} {x y : Option α} {P : α → Prop} (h1 : c = true → Ok x P) (h2 : c = false → Ok y P) : Ok (bif c then x else y) P := by
  cases c with
  | true => exact h1 rfl
  | false => exact h2 rfl
theorem Ok.mono {α : Type} {o : Option α} {P Q : α → Prop} (h : Ok o P) (g : ∀ a, P a → Q a) : Ok o Q := by
  obtain ⟨a, e, hp⟩ := h
  exact ⟨a, e, g a hp⟩
theorem Ok.sum {σ τ α : Type} {s : σ ⊕ τ} {f : σ → Option α} {g : τ → Option α} {P : α → Prop} (h1 : ∀ a, s = .inl a → Ok (f a) P) (h2 : ∀ b, s = .inr b → Ok (g b) P) : Ok (Sum.elim f g s) P := by
  cases s with
  | inl a => exact h1 a rfl
  | inr b => exact h2 b rfl
theorem Ok.iter {S O : Type} {f : S → Option (S ⊕ O)} {Post : O → Prop} {k : Nat} {s0 : S} (n : Nat) (Inv : Nat → S → Prop) (hk : n < k) (h0 : Inv 0 s0)
    (hs : ∀ i s, i ≤ n → Inv i s → Ok (f s) (fun r => (∀ s', r = .inl s' → i < n ∧ Inv (i + 1) s') ∧ ∀ o, r = .inr o → Post o)) : Ok (iterO f k s0) Post := by
  refine iterO_inv Inv Post n ?_ k hk s0 h0
  intro i s hi h
  obtain ⟨r, e, h1, h2⟩ := hs i s hi h
  cases r with
  | inl s' => exact .inl ⟨s', e, h1 s' rfl⟩
  | inr o => exact .inr ⟨o, e, h2 o rfl⟩
theorem Ok.go {S O : Type} {P : S → Prop} {Q : O → Prop} {s : S} (h : P s) : Ok (some (Sum.inl s) : Option (S ⊕ O)) (fun r => (∀ s', r = .inl s' → P s') ∧ ∀ o, r = .inr o → Q o) :=
  ⟨_, rfl, And.intro (fun s' e => by cases e; exact h) (fun o e => by cases e)⟩
theorem Ok.out {S O : Type} {P : S → Prop} {Q : O → Prop} {s : O} (h : Q s) : Ok (some (Sum.inr s) : Option (S ⊕ O)) (fun r => (∀ s', r = .inl s' → P s') ∧ ∀ o, r = .inr o → Q o) :=
  ⟨_, rfl, And.intro (fun s' e => by cases e) (fun o e => by cases e; exact h)⟩
theorem Ok.get {α : Type} {o : Option α} {P : α → Prop} (h : Ok o P) : ∃ a, o = some a ∧ P a := h

/-- a loop by a measure -/
theorem Ok.meas {S O : Type} {f : S → Option (S ⊕ O)} {Post : O → Prop} (Inv : S → Prop) (m : S → Nat)
    (hs : ∀ s, Inv s → Ok (f s) (fun r => (∀ s', r = .inl s' → Inv s' ∧ m s' < m s) ∧ ∀ o, r = .inr o → Post o)) : ∀ k s0, m s0 < k → Inv s0 → Ok (iterO f k s0) Post := by
  intro k
  induction k with
  | zero => intro s0 h; omega
  | succ k ih =>
    intro s0 hk h0
    obtain ⟨r, e, h1, h2⟩ := hs s0 h0
    cases r with
    | inl s' =>
      obtain ⟨h3, h4⟩ := h1 s' rfl
      obtain ⟨o, e2, h5⟩ := ih s' (by omega) h3
      exact ⟨o, by simp [iterO, e, e2], h5⟩
    | inr o => exact ⟨o, by simp [iterO, e], h2 o rfl⟩

theorem nxB {i : Nat} (h : i < 1000000000) : IntKind.i64.wrap ((i : Int) + 1) = ((i + 1 : Nat) : Int) := by rw [wrap_i64 (by omega) (by omega)]; omega
theorem inbZ {a : Int} {n : Nat} (h : 0 ≤ a) (h2 : a < (n : Int)) : (decide ((0 : Int) ≤ a) && decide (a < (n : Int))) = true := by simp; omega
theorem u64_nn (x : Int) : (0 : Int) ≤ IntKind.u64.wrap x := by
  simp only [IntKind.wrap, IntKind.bits, IntKind.signed]
  simp
  omega
theorem getD_mem {α : Type} {xs : List α} {i : Nat} {d : α} (h : i < xs.length) : xs.getD i d ∈ xs := by
  rw [getD_lt h]; exact List.getElem_mem h
theorem all_set {α : Type} {P : α → Prop} {xs : List α} {i : Nat} {a : α} (h : ∀ x ∈ xs, P x) (ha : P a) : ∀ x ∈ xs.set i a, P x := by
  intro x hx
  rcases List.mem_or_eq_of_mem_set hx with h1 | h1
  · exact h x h1
  · subst h1; exact ha
theorem bif_or_nn {a b : Bool} : (bif a then true else b) = false ↔ a = false ∧ b = false := by cases a <;> simp
theorem bif_and_t {a b : Bool} : (bif a then b else false) = true ↔ a = true ∧ b = true := by cases a <;> simp

end Go.VL

namespace Go.Proofs.YtkgjdglkkoabmaaGreat.N
open Go.VL



theorem pick_eq (k : Nat) (n t : Int) (ht : t ≤ 4611686018427387904) : bodegahand_Pick k n t = some (if t < 1 then 0 else n % t, ()) := by
  unfold bodegahand_Pick
  by_cases h : t < 1
  · simp [h]
  · have h0 : ¬ t = 0 := by omega
    have h1 : Int.tmod n t < t := Int.tmod_lt_of_pos n (by omega)
    have h2 : -t < Int.tmod n t := by
      have := Int.tmod_lt_of_pos (-n) (show 0 < t by omega)
      rw [Int.neg_tmod] at this
      omega
    have h3 : IntKind.i64.wrap (Int.tmod n t + t) = Int.tmod n t + t := wrap_i64 (by omega) (by omega)
    have h4 : (Int.tmod n t + t).tmod t = n % t := by
      rw [Int.tmod_eq_emod_of_nonneg (by omega)]
      have : Int.tmod n t + t = n + t * (1 - n.tdiv t) := by
        rw [Int.tmod_def, Int.mul_sub, Int.mul_one]
        omega
      rw [this, Int.add_mul_emod_self_left]
    simp [h, h0, h3, h4]

theorem pick_pos (k : Nat) (n t : Int) (h1 : 1 ≤ t) (ht : t ≤ 4611686018427387904) : bodegahand_Pick k n t = some (n % t, ()) := by
  rw [pick_eq k n t ht, if_neg (by omega)]

/-! ### What is valid -/
def bad1 (nodes : Int) (ms : List TMember) (i : Nat) : Bool :=
  decide ((ms.getD i ((0:Int), (0:Int), false, ())).1 < 0) || decide (nodes ≤ (ms.getD i ((0:Int), (0:Int), false, ())).1) || (decide (0 < i) && decide ((ms.getD i ((0:Int), (0:Int), false, ())).1 ≤ (ms.getD (i - 1) ((0:Int), (0:Int), false, ())).1))
def bad2 (ms : List TMember) (i : Nat) : Bool := decide ((ms.getD i ((0:Int), (0:Int), false, ())).2.1 < 1) || decide (31 < (ms.getD i ((0:Int), (0:Int), false, ())).2.1)

def vv (v : TView) (nodes : Int) : Int :=
  if nodes < 1 ∨ 5 < nodes then 1
  else if v.1 < 0 ∨ 16 ≤ v.1 then 2
  else if (List.range v.2.1.length).any (bad1 nodes v.2.1) then 1
  else if v.2.1 = [] then 1
  else if (List.range v.2.1.length).any (bad2 v.2.1) then 2
  else if v.2.1.any (·.2.2.1) then 0 else 13

theorem find_any (n : Nat) (p : Nat → Bool) : ((List.range n).find? p).isSome = (List.range n).any p := by
  rw [Bool.eq_iff_iff, List.find?_isSome, List.any_eq_true]

theorem getD_any {α : Type} (ms : List α) (d : α) (p : α → Bool) : ((List.range ms.length).any fun i => p (ms.getD i d)) = ms.any p := by
  rw [Bool.eq_iff_iff, List.any_eq_true, List.any_eq_true]
  constructor
  · rintro ⟨i, hi, h⟩
    rw [List.mem_range] at hi
    exact ⟨ms[i], List.getElem_mem hi, by rw [← h, getD_lt hi]⟩
  · rintro ⟨x, hx, h⟩
    obtain ⟨i, hi, rfl⟩ := List.getElem_of_mem hx
    exact ⟨i, List.mem_range.2 hi, by rw [getD_lt hi]; exact h⟩

theorem nx {i : Nat} (h : i < 2000) : IntKind.i64.wrap ((i : Int) + 1) = ((i + 1 : Nat) : Int) := by rw [wrap_i64 (by omega) (by omega)]; omega
theorem pv {i : Nat} (h : i < 2000) : IntKind.i64.wrap ((i : Int) - 1) = (i : Int) - 1 := wrap_i64 (by omega) (by omega)
theorem inb {i n : Nat} (h : i < n) : (decide ((0 : Int) ≤ (i : Int)) && decide ((i : Int) < (n : Int))) = true := by simp; omega

theorem isFull_any (k : Nat) (ms : List TMember) (hk : ms.length < k) (hl : ms.length ≤ 1000) : slices_ContainsFunc_isFull k ms = some (ms.any (·.2.2.1), ()) := by
  have L : slices_IndexFunc_isFull_L1_it k ms () (ms.length : Int) 0 = some (((List.range ms.length).find? (fun i => (ms.getD i ((0:Int), (0:Int), false, ())).2.2.1)).elim (Sum.inr ()) (fun i => Sum.inl ((i : Int), ()))) := by
    refine iterO_find (fun i => (ms, (), (ms.length : Int), (i : Int), ())) (fun i => (ms.getD i ((0:Int), (0:Int), false, ())).2.2.1) (fun i => Sum.inl ((i : Int), ())) (Sum.inr ()) ms.length ?_ ?_ k hk
    · intro i hi
      simp only [slices_IndexFunc_isFull_L1, view_isFull, nx (show i < 2000 by omega), Int.toNat_natCast, inb hi, cond_true, Option.bind_some]
      simp only [show (decide ((i : Int) < (ms.length : Int))) = true by simp; omega, cond_true]
      cases (ms.getD i ((0:Int), (0:Int), false, ())).2.2.1 <;> rfl
    · simp [slices_IndexFunc_isFull_L1]
  unfold slices_ContainsFunc_isFull slices_IndexFunc_isFull
  rw [L, ← getD_any ms ((0:Int), (0:Int), false, ()) (·.2.2.1), ← find_any]
  cases (List.range ms.length).find? (fun i => (ms.getD i ((0:Int), (0:Int), false, ())).2.2.1) with
  | none => rfl
  | some i => simp

theorem isNodes_eq (k : Nat) (n : Int) : view_isNodes k n = some (decide (1 ≤ n) && decide (n ≤ 5), ()) := by
  unfold view_isNodes
  by_cases h : 1 ≤ n <;> simp [h]

theorem valid_L1 (k : Nat) (nodes : Int) (v : TView) (hk : v.2.1.length < k) (hl : v.2.1.length ≤ 1000) :
    view_Valid_L1_it k nodes v v.2.1 (v.2.1.length : Int) 0 = some (((List.range v.2.1.length).find? (bad1 nodes v.2.1)).elim (Sum.inr (v, ())) (fun _ => Sum.inl (1, ()))) := by
  refine iterO_find (fun i => (nodes, v, v.2.1, (v.2.1.length : Int), (i : Int), ())) (bad1 nodes v.2.1) (fun i => Sum.inl (1, ())) (Sum.inr (v, ())) v.2.1.length ?_ ?_ k hk
  · intro i hi
    have h1 : (decide ((i : Int) < (v.2.1.length : Int))) = true := by simp; omega
    simp only [view_Valid_L1, nx (show i < 2000 by omega), pv (show i < 2000 by omega), Int.toNat_natCast, h1, cond_true, bad1]
    have h2 : ((i : Int) - 1).toNat = i - 1 := by omega
    rw [h2]
    by_cases h0 : 0 < i
    · have h3 : (decide ((0 : Int) ≤ (i : Int) - 1) && decide ((i : Int) - 1 < (v.2.1.length : Int))) = true := by simp; omega
      have h4 : (decide ((0 : Int) < (i : Int))) = true := by simp; omega
      simp only [h3, h4, h0, decide_true, Bool.true_or, Bool.true_and, cond_true]
      by_cases c1 : (v.2.1.getD i ((0:Int), (0:Int), false, ())).1 < 0 <;> by_cases c2 : nodes ≤ (v.2.1.getD i ((0:Int), (0:Int), false, ())).1 <;> by_cases c3 : (v.2.1.getD i ((0:Int), (0:Int), false, ())).1 ≤ (v.2.1.getD (i - 1) ((0:Int), (0:Int), false, ())).1 <;> simp [c1, c2, c3, -List.getD_eq_getElem?_getD]
    · have h4 : (decide ((0 : Int) < (i : Int))) = false := by simp; omega
      simp only [h4, h0, decide_false, Bool.false_and, Bool.not_false, Bool.or_true, cond_true, Bool.or_false, cond_false]
      by_cases c1 : (v.2.1.getD i ((0:Int), (0:Int), false, ())).1 < 0 <;> by_cases c2 : nodes ≤ (v.2.1.getD i ((0:Int), (0:Int), false, ())).1 <;> simp [c1, c2, -List.getD_eq_getElem?_getD]
  · simp [view_Valid_L1]

theorem valid_L2 (k : Nat) (v : TView) (hk : v.2.1.length < k) (hl : v.2.1.length ≤ 1000) :
    view_Valid_L2_it k v v.2.1 (v.2.1.length : Int) 0 = some (((List.range v.2.1.length).find? (bad2 v.2.1)).elim (Sum.inr (v, ())) (fun _ => Sum.inl (2, ()))) := by
  refine iterO_find (fun i => (v, v.2.1, (v.2.1.length : Int), (i : Int), ())) (bad2 v.2.1) (fun i => Sum.inl (2, ())) (Sum.inr (v, ())) v.2.1.length ?_ ?_ k hk
  · intro i hi
    have h1 : (decide ((i : Int) < (v.2.1.length : Int))) = true := by simp; omega
    simp only [view_Valid_L2, nx (show i < 2000 by omega), Int.toNat_natCast, h1, cond_true, bad2]
    by_cases c1 : (v.2.1.getD i ((0:Int), (0:Int), false, ())).2.1 < 1 <;> by_cases c2 : 31 < (v.2.1.getD i ((0:Int), (0:Int), false, ())).2.1 <;> simp [c1, c2, -List.getD_eq_getElem?_getD]
  · simp [view_Valid_L2]

theorem valid_eq (k : Nat) (v : TView) (nodes : Int) (hk : v.2.1.length < k) (hl : v.2.1.length ≤ 1000) : view_Valid k v nodes = some (vv v nodes, ()) := by
  unfold view_Valid
  rw [isNodes_eq]
  simp only [Option.bind_some]
  unfold vv
  by_cases h1 : nodes < 1 ∨ 5 < nodes
  · have : (decide (1 ≤ nodes) && decide (nodes ≤ 5)) = false := by simp; omega
    simp [this, h1]
  · have : (decide (1 ≤ nodes) && decide (nodes ≤ 5)) = true := by simp; omega
    simp only [this, h1, if_false, Bool.not_true, cond_false]
    by_cases h2 : v.1 < 0 ∨ 16 ≤ v.1
    · have : (bif decide (v.1 < 0) then true else decide (16 ≤ v.1)) = true := by
        rcases h2 with h | h
        · simp [h]
        · by_cases h' : v.1 < 0 <;> simp [h, h']
      simp [this, h2]
    · have : (bif decide (v.1 < 0) then true else decide (16 ≤ v.1)) = false := by
        have : ¬ v.1 < 0 := fun h => h2 (.inl h)
        simp [this]; omega
      simp only [this, h2, if_false, cond_false]
      by_cases h3 : v.2.1 = []
      · simp [h3]
      · have h3' : ¬ ((v.2.1.length : Int) = 0) := by
          intro h; exact h3 (List.eq_nil_of_length_eq_zero (by omega))
        simp only [h3', decide_false, cond_false, h3, if_false]
        rw [valid_L1 k nodes v hk hl, ← find_any]
        cases (List.range v.2.1.length).find? (bad1 nodes v.2.1) with
        | some i => simp
        | none =>
          simp only [Option.elim_none, Option.bind_some, Sum.elim_inr, Option.isSome_none, Bool.false_eq_true, if_false]
          rw [valid_L2 k v hk hl, ← find_any]
          cases (List.range v.2.1.length).find? (bad2 v.2.1) with
          | some i => simp
          | none =>
            simp only [Option.elim_none, Option.bind_some, Sum.elim_inr, Option.isSome_none, Bool.false_eq_true, if_false]
            rw [isFull_any k v.2.1 hk hl]
            cases v.2.1.any (·.2.2.1) <;> simp

theorem full_eq (k : Nat) (v : TView) (hk : v.2.1.length < k) (hl : v.2.1.length ≤ 1000) : bodegaref9_Full k v = some (v.2.1.filter (·.2.2.1), ()) := by
  have L : ∃ o, bodegaref9_Full_L1_it k v [] 0 = some o ∧ o = (v.2.1.filter (·.2.2.1), ()) := by
    refine iterO_inv (fun i s => s = (v, (v.2.1.take i).filter (·.2.2.1), (i : Int), ())) (fun o => o = (v.2.1.filter (·.2.2.1), ())) v.2.1.length ?_ k hk _ (by simp)
    rintro i s hi rfl
    by_cases h : i < v.2.1.length
    · left
      have h1 : (decide ((i : Int) < (v.2.1.length : Int))) = true := by simp; omega
      have hlen : ((v.2.1.take i).filter (·.2.2.1)).length ≤ 1000 := Nat.le_trans (List.length_filter_le _ _) (by simp; omega)
      have h2 : (decide (((v.2.1.take i).filter (·.2.2.1)).length + [v.2.1.getD i ((0:Int), (0:Int), false, ())].length < 1073741824)) = true := by simp; omega
      simp only [bodegaref9_Full_L1, nx (show i < 2000 by omega), Int.toNat_natCast, h1, h2, cond_true]
      have ht : v.2.1.take (i + 1) = v.2.1.take i ++ [v.2.1.getD i ((0:Int), (0:Int), false, ())] := by rw [getD_lt h, List.take_succ_eq_append_getElem h]
      rw [ht, List.filter_append]
      cases hb : (v.2.1.getD i ((0:Int), (0:Int), false, ())).2.2.1 with
      | true => exact ⟨_, rfl, h, by simp [hb, -List.getD_eq_getElem?_getD]⟩
      | false => exact ⟨_, rfl, h, by simp [hb, -List.getD_eq_getElem?_getD]⟩
    · right
      have : i = v.2.1.length := by omega
      subst this
      exact ⟨((v.2.1.take v.2.1.length).filter (·.2.2.1), ()), by simp [bodegaref9_Full_L1], by simp⟩
  obtain ⟨o, h1, rfl⟩ := L
  unfold bodegaref9_Full
  rw [h1]
  rfl



theorem rvalid_L1 (k : Nat) (nodes : Int) (v : TView) (hk : v.2.1.length < k) (hl : v.2.1.length ≤ 1000) :
    bodegaref9_ValidView_L1_it k nodes v 0 = some (((List.range v.2.1.length).find? (bad1 nodes v.2.1)).elim (Sum.inr (v, ())) (fun _ => Sum.inl (1, ()))) := by
  refine iterO_find (fun i => (nodes, v, (i : Int), ())) (bad1 nodes v.2.1) (fun i => Sum.inl (1, ())) (Sum.inr (v, ())) v.2.1.length ?_ ?_ k hk
  · intro i hi
    have h1 : (decide ((i : Int) < (v.2.1.length : Int))) = true := by simp; omega
    simp only [bodegaref9_ValidView_L1, nx (show i < 2000 by omega), pv (show i < 2000 by omega), Int.toNat_natCast, h1, cond_true, bad1]
    have h2 : ((i : Int) - 1).toNat = i - 1 := by omega
    rw [h2]
    by_cases h0 : 0 < i
    · have h3 : (decide ((0 : Int) ≤ (i : Int) - 1) && decide ((i : Int) - 1 < (v.2.1.length : Int))) = true := by simp; omega
      have h4 : (decide ((0 : Int) < (i : Int))) = true := by simp; omega
      simp only [h3, h4, h0, decide_true, Bool.true_or, Bool.true_and, cond_true]
      by_cases c1 : (v.2.1.getD i ((0:Int), (0:Int), false, ())).1 < 0 <;> by_cases c2 : nodes ≤ (v.2.1.getD i ((0:Int), (0:Int), false, ())).1 <;> by_cases c3 : (v.2.1.getD i ((0:Int), (0:Int), false, ())).1 ≤ (v.2.1.getD (i - 1) ((0:Int), (0:Int), false, ())).1 <;> simp [c1, c2, c3, -List.getD_eq_getElem?_getD]
    · have h4 : (decide ((0 : Int) < (i : Int))) = false := by simp; omega
      simp only [h4, h0, decide_false, Bool.false_and, Bool.not_false, Bool.or_true, cond_true, Bool.or_false, cond_false]
      by_cases c1 : (v.2.1.getD i ((0:Int), (0:Int), false, ())).1 < 0 <;> by_cases c2 : nodes ≤ (v.2.1.getD i ((0:Int), (0:Int), false, ())).1 <;> simp [c1, c2, -List.getD_eq_getElem?_getD]
  · simp [bodegaref9_ValidView_L1]

theorem rvalid_L2 (k : Nat) (v : TView) (hk : v.2.1.length < k) (hl : v.2.1.length ≤ 1000) :
    bodegaref9_ValidView_L2_it k v 0 = some (((List.range v.2.1.length).find? (bad2 v.2.1)).elim (Sum.inr (v, ())) (fun _ => Sum.inl (2, ()))) := by
  refine iterO_find (fun i => (v, (i : Int), ())) (bad2 v.2.1) (fun i => Sum.inl (2, ())) (Sum.inr (v, ())) v.2.1.length ?_ ?_ k hk
  · intro i hi
    have h1 : (decide ((i : Int) < (v.2.1.length : Int))) = true := by simp; omega
    simp only [bodegaref9_ValidView_L2, nx (show i < 2000 by omega), Int.toNat_natCast, h1, cond_true, bad2]
    by_cases c1 : (v.2.1.getD i ((0:Int), (0:Int), false, ())).2.1 < 1 <;> by_cases c2 : 31 < (v.2.1.getD i ((0:Int), (0:Int), false, ())).2.1 <;> simp [c1, c2, -List.getD_eq_getElem?_getD]
  · simp [bodegaref9_ValidView_L2]

theorem any_filter {α : Type} (l : List α) (p : α → Bool) : (l.any p = true) ↔ (l.filter p) ≠ [] := by
  rw [List.any_eq_true, ne_eq, List.filter_eq_nil_iff]
  constructor
  · rintro ⟨x, hx, h⟩ hn; exact hn x hx h
  · intro h
    false_or_by_contra
    rename_i h2
    exact h fun a ha hp => h2 ⟨a, ha, hp⟩

theorem rvalid_eq (k : Nat) (v : TView) (nodes : Int) (hk : v.2.1.length < k) (hl : v.2.1.length ≤ 1000) : bodegaref9_ValidView k v nodes = some (vv v nodes, ()) := by
  unfold bodegaref9_ValidView vv
  by_cases h1 : nodes < 1 ∨ 5 < nodes
  · have : (bif decide (nodes < 1) then true else decide (5 < nodes)) = true := by
      rcases h1 with h | h
      · simp [h]
      · by_cases h' : nodes < 1 <;> simp [h, h']
    simp [this, h1]
  · have : (bif decide (nodes < 1) then true else decide (5 < nodes)) = false := by
      have : ¬ nodes < 1 := fun h => h1 (.inl h)
      simp [this]; omega
    simp only [this, h1, if_false, cond_false]
    by_cases h2 : v.1 < 0 ∨ 16 ≤ v.1
    · have : (bif decide (v.1 < 0) then true else decide (16 ≤ v.1)) = true := by
        rcases h2 with h | h
        · simp [h]
        · by_cases h' : v.1 < 0 <;> simp [h, h']
      simp [this, h2]
    · have : (bif decide (v.1 < 0) then true else decide (16 ≤ v.1)) = false := by
        have : ¬ v.1 < 0 := fun h => h2 (.inl h)
        simp [this]; omega
      simp only [this, h2, if_false, cond_false]
      rw [rvalid_L1 k nodes v hk hl, ← find_any]
      cases (List.range v.2.1.length).find? (bad1 nodes v.2.1) with
      | some i => simp
      | none =>
        simp only [Option.elim_none, Option.bind_some, Sum.elim_inr, Option.isSome_none, Bool.false_eq_true, if_false]
        by_cases h3 : v.2.1 = []
        · simp [h3]
        · have h3' : ¬ ((v.2.1.length : Int) = 0) := by
            intro h; exact h3 (List.eq_nil_of_length_eq_zero (by omega))
          simp only [h3', decide_false, cond_false, h3, if_false]
          rw [rvalid_L2 k v hk hl, ← find_any]
          cases (List.range v.2.1.length).find? (bad2 v.2.1) with
          | some i => simp
          | none =>
            simp only [Option.elim_none, Option.bind_some, Sum.elim_inr, Option.isSome_none, Bool.false_eq_true, if_false]
            rw [full_eq k v hk hl]
            by_cases hf : v.2.1.filter (·.2.2.1) = []
            · have : ¬ v.2.1.any (·.2.2.1) = true := by rw [any_filter]; simpa using hf
              simp [hf, this]
            · have h4 : v.2.1.any (·.2.2.1) = true := (any_filter _ _).2 hf
              have h5 : ¬ (((v.2.1.filter (·.2.2.1)).length : Int) = 0) := by
                intro h; exact hf (List.eq_nil_of_length_eq_zero (by omega))
              simp only [h4, if_true, Option.bind_some, h5, decide_false, cond_false]

/-! ### The same -/
theorem z0 (i : Nat) : decide ((0 : Int) ≤ (i : Int)) = true := decide_eq_true (Int.natCast_nonneg i)

def initM (n : Nat) : List TMember := (List.range n).map fun (i : Nat) => ((i : Int), (1 : Int), true, ())

theorem initM_succ (i : Nat) : initM (i + 1) = initM i ++ [((i : Int), (1 : Int), true, ())] := by simp [initM, List.range_succ]
theorem initM_len (i : Nat) : (initM i).length = i := by simp [initM]

def initV (n : Int) : TView × Int × Unit := if 1 ≤ n ∧ n ≤ 5 then (((0:Int), initM n.toNat, ()), 0, ()) else (((0:Int), [], ()), 1, ())

theorem rinitial_L (k n : Nat) (hk : n < k) (hn : n ≤ 5) : bodegaref9_Initial_L1_it k (n : Int) ((0:Int), [], ()) ((0:Int), [], ()) 0 = some (((0:Int), [], ()), ((0:Int), initM n, ()), ()) := by
  have L : ∃ o, bodegaref9_Initial_L1_it k (n : Int) ((0:Int), [], ()) ((0:Int), [], ()) 0 = some o ∧ o = (((0:Int), [], ()), ((0:Int), initM n, ()), ()) := by
    refine iterO_inv (fun i s => s = ((n : Int), ((0:Int), [], ()), ((0:Int), initM i, ()), (i : Int), ())) (fun o => o = (((0:Int), [], ()), ((0:Int), initM n, ()), ())) n ?_ k hk _ (by simp [initM])
    rintro i s hi rfl
    by_cases h : i < n
    · left
      have h1 : (decide ((i : Int) < (n : Int))) = true := by simp; omega
      have h2 : (decide ((initM i).length + [((i : Int), (1 : Int), true, ())].length < 1073741824)) = true := by rw [initM_len]; exact decide_eq_true (by simp; omega)
      refine ⟨((n : Int), ((0:Int), [], ()), ((0:Int), initM (i + 1), ()), ((i + 1 : Nat) : Int), ()), ?_, h, rfl⟩
      simp only [bodegaref9_Initial_L1, nx (show i < 2000 by omega), h1, h2, cond_true, initM_succ]
    · right
      have : i = n := by omega
      subst this
      exact ⟨_, by simp [bodegaref9_Initial_L1], rfl⟩
  obtain ⟨o, h1, rfl⟩ := L
  exact h1

theorem rinitial_eq (k : Nat) (n : Int) (hk : 5 < k) : bodegaref9_Initial k n = some (initV n) := by
  unfold bodegaref9_Initial initV
  by_cases h : 1 ≤ n ∧ n ≤ 5
  · have e : ((n.toNat : Nat) : Int) = n := by omega
    have := rinitial_L k n.toNat (by omega) (by omega)
    rw [e] at this
    have h' : (bif decide (n < 1) then true else decide (5 < n)) = false := by
      have : ¬ n < 1 := by omega
      simp [this]; omega
    simp [h, h', this]
  · have h' : (bif decide (n < 1) then true else decide (5 < n)) = true := by
      by_cases h2 : n < 1
      · simp [h2]
      · simp [h2]; omega
    simp [h, h']

theorem key_eq (k : Nat) (n : Int) (t : Bool) : word_Key k n t = bodegaref1_Key k n t := by
  unfold word_Key bodegaref1_Key word_within
  simp only [Option.bind_some]
  by_cases h0 : 0 ≤ n
  · by_cases h1 : n ≤ 15
    · have h2 : ¬ n < 0 := by omega
      have h3 : ¬ 16 ≤ n := by omega
      have w1 : IntKind.u64.wrap n = n := wrap_u64 (by omega) (by omega)
      have w2 : IntKind.i64.wrap (2 * n) = n * 2 := by rw [wrap_i64 (by omega) (by omega)]; omega
      simp [h0, h1, h2, h3, w1, w2]
    · have h2 : ¬ n < 0 := by omega
      have h3 : 16 ≤ n := by omega
      simp [h0, h1, h2, h3]
  · have h2 : n < 0 := by omega
    simp [h0, h2]

theorem clone_eq (k : Nat) (xs : List Int) (h : xs.length ≤ 1000) : slices_Clone k xs = some (xs, ()) := by
  unfold slices_Clone
  have h1 : decide (([] : List Int).length + xs.length < 1073741824) = true := decide_eq_true (by simp; omega)
  simp only [h1, cond_true, List.nil_append]
  cases xs with
  | nil => simp
  | cons x xs => simp

theorem address_eq (k : Nat) (v : TView) (m : TMember) (t : Bool) (x : TVerb) (h : x.2.2.2.2.2.2.1.length ≤ 1000) : view_Address k v m t x = bodegaref9_Address k v m t x := by
  unfold view_Address bodegaref9_Address
  dsimp only
  rw [key_eq, clone_eq k _ h]
  rfl

theorem raddress_ex (k : Nat) (v : TView) (m : TMember) (t : Bool) (x : TVerb) : ∃ y, bodegaref9_Address k v m t x = some (y, ()) ∧ y.2.2.2.2.2.2.1 = x.2.2.2.2.2.2.1 := by
  unfold bodegaref9_Address
  obtain ⟨z, hz⟩ : ∃ z, bodegaref1_Key k v.1 t = some z := by
    unfold bodegaref1_Key
    cases (bif decide (v.1 < 0) then true else decide (16 ≤ v.1)) with
    | true => exact ⟨_, rfl⟩
    | false => cases t <;> exact ⟨_, rfl⟩
  rw [hz]
  exact ⟨_, rfl, rfl⟩

theorem words_refl (k : Nat) (a : List Int) (hk : a.length < k) (hl : a.length ≤ 1000) : bodegaref1_SameWords k a a = some (true, ()) := by
  have L : ∃ r, bodegaref1_SameWords_L1_it k a a 0 = some r ∧ r = Sum.inr () := by
    refine iterO_inv (fun i s => s = (a, a, (i : Int), ())) (fun r => r = Sum.inr ()) a.length ?_ k hk _ rfl
    rintro i s hi rfl
    by_cases h : i < a.length
    · left
      have h1 : (decide ((i : Int) < (a.length : Int))) = true := decide_eq_true (by omega)
      exact ⟨(a, a, ((i + 1 : Nat) : Int), ()), by simp only [bodegaref1_SameWords_L1, h1, z0, Bool.and_self, cond_true, decide_true, Bool.not_true, cond_false, nx (show i < 2000 by omega)], h, rfl⟩
    · right
      have : i = a.length := by omega
      subst this
      exact ⟨_, by simp [bodegaref1_SameWords_L1], rfl⟩
  obtain ⟨r, h1, rfl⟩ := L
  unfold bodegaref1_SameWords
  rw [h1]
  simp

theorem verb_refl (k : Nat) (a : TVerb) (hk : a.2.2.2.2.2.2.1.length < k) (hl : a.2.2.2.2.2.2.1.length ≤ 1000) : bodegaref4_Same k a a = some (true, ()) := by
  unfold bodegaref4_Same
  simp only [decide_true, Bool.not_true, cond_false, cond_true, words_refl k _ hk hl, Option.bind_some]
  cases decide (a.1 = 1) <;> cases decide (a.1 = 2) <;> cases decide (a.1 = 3) <;> cases decide (a.1 = 4) <;> rfl


end Go.Proofs.YtkgjdglkkoabmaaGreat.N

namespace Go.Proofs.YtkgjdglkkoabmaaGreat.N
open Go.VL

/-! ### Replies that fit -/
def rets (v : TVerb) : Int := if v.1 = 1 then v.2.2.2.1 else 0
def fitB (v : TVerb) (d : TClocksOutcome) : Bool := if d.1 = 0 then decide ((d.2.1.length : Int) = rets v) else if d.1 = 4 ∨ d.1 = 5 then decide ((d.2.1.length : Int) = 0) else false
def KV (b : List TVerb) : Prop := ∀ i, i < b.length → (b.getD i ((0:Int), (0:Int), (0:Int), (0:Int), (0:Int), (0:Int), ([] : (List Int)), (0:Int), (0:Int), ())).1 = 1 ∨ (b.getD i ((0:Int), (0:Int), (0:Int), (0:Int), (0:Int), (0:Int), ([] : (List Int)), (0:Int), (0:Int), ())).1 = 2
def badF (b : List TVerb) (g : List TClocksOutcome) (i : Nat) : Bool := !fitB (b.getD i ((0:Int), (0:Int), (0:Int), (0:Int), (0:Int), (0:Int), ([] : (List Int)), (0:Int), (0:Int), ())) (g.getD i ((0:Int), ([] : (List Int)), ()))
def fitA (b : List TVerb) (g : List TClocksOutcome) : Bool := decide (b.length = g.length) && !(List.range b.length).any (badF b g)

theorem fits_eq (k : Nat) (v : TVerb) (d : TClocksOutcome) (hv : v.1 = 1 ∨ v.1 = 2) : verb_fits k v d = some (fitB v d, ()) := by
  have hr : verb_Returns k v = some (rets v, ()) := by
    unfold verb_Returns rets
    rcases hv with h | h <;> simp [h]
  unfold verb_fits fitB
  by_cases h0 : d.1 = 0
  · simp [h0, hr]
  · by_cases h4 : d.1 = 4
    · simp [h4, verb_fits_J1]
    · by_cases h5 : d.1 = 5
      · simp [h5, verb_fits_J1]
      · simp [h0, h4, h5, verb_fits_J1]

theorem fit_eq (k : Nat) (b : List TVerb) (g : List TClocksOutcome) (hb : KV b) (hk : b.length < k) (hl : b.length ≤ 1000) : verb_Fit k b g = some (fitA b g, ()) := by
  unfold verb_Fit fitA
  by_cases hn : b.length = g.length
  · have hn' : ((b.length : Int) = (g.length : Int)) := by omega
    have L : verb_Fit_L1_it k g b (b.length : Int) 0 = some (((List.range b.length).find? (badF b g)).elim (Sum.inr ()) (fun i => Sum.inl (false, ()))) := by
      refine iterO_find (fun i => (g, b, (b.length : Int), (i : Int), ())) (badF b g) (fun i => Sum.inl (false, ())) (Sum.inr ()) b.length ?_ ?_ k hk
      · intro i hi
        have h1 : (decide ((i : Int) < (b.length : Int))) = true := by (simp <;> omega)
        simp only [verb_Fit_L1, nx (show i < 2000 by omega), Int.toNat_natCast, inb (show i < g.length by omega), h1, cond_true, fits_eq k _ _ (hb i hi), Option.bind_some, badF]
        generalize fitB _ _ = c
        cases c <;> rfl
      · simp [verb_Fit_L1]
    have hd : decide ((b.length : Int) = (g.length : Int)) = true := decide_eq_true hn'
    simp only [hd, Bool.not_true, cond_false]
    rw [L]
    simp only [Option.bind_some, hn, decide_true, Bool.true_and]
    rw [← find_any]
    cases (List.range g.length).find? (badF b g) <;> rfl
  · have hn' : ¬ ((b.length : Int) = (g.length : Int)) := by omega
    simp [hn, hn']

theorem rfit_key {S O : Type} (v : TVerb) (d : TClocksOutcome) (a : O) (c : S) :
    (bif bif bif !decide (d.1 = 0) then !decide (d.1 = 4) else false then !decide (d.1 = 5) else false then some (Sum.inr a)
     else Option.bind (bif decide (d.1 = 0) then some (rets v, ()) else some ((0 : Int), ())) fun r1 =>
       bif bif bif decide (d.1 = 0) then !decide ((d.2.1.length : Int) = r1.1) else false then true else bif !decide (d.1 = 0) then !decide ((d.2.1.length : Int) = 0) else false then some (Sum.inr a)
       else some (Sum.inl c)) = (some (bif !fitB v d then Sum.inr a else Sum.inl c) : Option (S ⊕ O)) := by
  unfold fitB
  by_cases h0 : d.1 = 0
  · simp [h0]
    by_cases hd : (d.2.1.length : Int) = rets v <;> simp [hd]
  · by_cases h4 : d.1 = 4
    · simp [h4]
      by_cases hd : d.2.1 = [] <;> simp [hd]
    · by_cases h5 : d.1 = 5
      · simp [h5]
        by_cases hd : d.2.1 = [] <;> simp [hd]
      · simp [h0, h4, h5]

theorem rfit_eq (k : Nat) (b : List TVerb) (g : List TClocksOutcome) (hb : KV b) (hk : b.length < k) (hl : b.length ≤ 1000) : bodegaref4_Fit k b g = some (fitA b g, ()) := by
  unfold bodegaref4_Fit fitA
  by_cases hn : b.length = g.length
  · have hn' : ((b.length : Int) = (g.length : Int)) := by omega
    have L : bodegaref4_Fit_L1_it k b g 0 = some (((List.range b.length).find? (badF b g)).elim (Sum.inr ()) (fun i => Sum.inl (false, ()))) := by
      refine iterO_find (fun i => (b, g, (i : Int), ())) (badF b g) (fun i => Sum.inl (false, ())) (Sum.inr ()) b.length ?_ ?_ k hk
      · intro i hi
        have h1 : (decide ((i : Int) < (g.length : Int))) = true := by (simp <;> omega)
        have hr : bodegaref4_Returns k (b.getD i ((0:Int), (0:Int), (0:Int), (0:Int), (0:Int), (0:Int), ([] : (List Int)), (0:Int), (0:Int), ())) = some (rets (b.getD i ((0:Int), (0:Int), (0:Int), (0:Int), (0:Int), (0:Int), ([] : (List Int)), (0:Int), (0:Int), ())), ()) := by
          unfold bodegaref4_Returns rets
          rcases hb i hi with h | h <;> simp [h, -List.getD_eq_getElem?_getD]
        simp only [bodegaref4_Fit_L1, nx (show i < 2000 by omega), Int.toNat_natCast, inb hi, h1, cond_true, hr, badF, Bool.true_or]
        exact rfit_key _ _ _ _
      · simp [bodegaref4_Fit_L1, hn]
    simp only [hn', decide_true, Bool.not_true, cond_false]
    rw [L] 
    simp only [Option.bind_some, hn, decide_true, Bool.true_and]
    rw [← find_any]
    cases (List.range g.length).find? (badF b g) <;> rfl
  · have hn' : ¬ ((b.length : Int) = (g.length : Int)) := by omega
    simp [hn, hn']

def nok (g : List TClocksOutcome) (i : Nat) : Bool := !decide ((g.getD i ((0:Int), ([] : (List Int)), ())).1 = 0)
def firstC (g : List TClocksOutcome) : Int := ((List.range g.length).find? (nok g)).elim 0 (fun i => (g.getD i ((0:Int), ([] : (List Int)), ())).1)

theorem first_eq (k : Nat) (g : List TClocksOutcome) (hk : g.length < k) (hl : g.length ≤ 1000) : verb_First k g = some (firstC g, ()) := by
  have L : verb_First_L1_it k g (g.length : Int) 0 = some (((List.range g.length).find? (nok g)).elim (Sum.inr ()) (fun i => Sum.inl ((g.getD i ((0:Int), ([] : (List Int)), ())).1, ()))) := by
    refine iterO_find (fun i => (g, (g.length : Int), (i : Int), ())) (nok g) (fun i => Sum.inl ((g.getD i ((0:Int), ([] : (List Int)), ())).1, ())) (Sum.inr ()) g.length ?_ ?_ k hk
    · intro i hi
      have h1 : (decide ((i : Int) < (g.length : Int))) = true := by (simp <;> omega)
      simp only [verb_First_L1, nx (show i < 2000 by omega), Int.toNat_natCast, h1, cond_true, nok]
      cases decide ((g.getD i ((0:Int), ([] : (List Int)), ())).1 = 0) <;> rfl
    · simp [verb_First_L1]
  unfold verb_First firstC
  rw [L]
  cases (List.range g.length).find? (nok g) <;> rfl

theorem rfirst_eq (k : Nat) (g : List TClocksOutcome) (hk : g.length < k) (hl : g.length ≤ 1000) : bodegaref4_First k g = some (firstC g, ()) := by
  have L : bodegaref4_First_L1_it k g 0 = some (((List.range g.length).find? (nok g)).elim (Sum.inr ()) (fun i => Sum.inl ((g.getD i ((0:Int), ([] : (List Int)), ())).1, ()))) := by
    refine iterO_find (fun i => (g, (i : Int), ())) (nok g) (fun i => Sum.inl ((g.getD i ((0:Int), ([] : (List Int)), ())).1, ())) (Sum.inr ()) g.length ?_ ?_ k hk
    · intro i hi
      have h1 : (decide ((i : Int) < (g.length : Int))) = true := by (simp <;> omega)
      simp only [bodegaref4_First_L1, nx (show i < 2000 by omega), Int.toNat_natCast, h1, cond_true, nok]
      cases decide ((g.getD i ((0:Int), ([] : (List Int)), ())).1 = 0) <;> rfl
    · simp [bodegaref4_First_L1]
  unfold bodegaref4_First firstC
  rw [L]
  cases (List.range g.length).find? (nok g) <;> rfl

theorem first_zero {g : List TClocksOutcome} (h : firstC g = 0) {i : Nat} (hi : i < g.length) : (g.getD i ((0:Int), ([] : (List Int)), ())).1 = 0 := by
  unfold firstC at h
  cases hf : (List.range g.length).find? (nok g) with
  | none =>
    rw [List.find?_eq_none] at hf
    have := hf i (List.mem_range.2 hi)
    simpa [nok, -List.getD_eq_getElem?_getD] using this
  | some j =>
    rw [hf] at h
    have hj := List.find?_some hf
    simp only [Option.elim_some] at h
    simp [nok, h, -List.getD_eq_getElem?_getD] at hj

/-! ### One batch -/
def tk (b : List TVerb) (got : List (List TClocksOutcome)) : List TVerb × List TClocksOutcome × Int × Bool × Unit :=
  match got with
  | [] => (b, [], 0, false, ())
  | g :: rest => if fitA b g && rest.isEmpty then ([], g, firstC g, true, ()) else ([], [], 6, true, ())
def sg (b : List TVerb) (got : List (List TClocksOutcome)) : List TClocksOutcome × Bool × Bool × Unit :=
  match got with
  | [] => ([], true, true, ())
  | g :: rest => if fitA b g then (g, false, rest.isEmpty, ()) else ([], false, false, ())

theorem fitA_len {b : List TVerb} {g : List TClocksOutcome} (h : fitA b g = true) : b.length = g.length := by
  unfold fitA at h
  simp only [Bool.and_eq_true, decide_eq_true_eq] at h
  exact h.1
theorem fitA_at {b : List TVerb} {g : List TClocksOutcome} (h : fitA b g = true) {i : Nat} (hi : i < b.length) : fitB (b.getD i ((0:Int), (0:Int), (0:Int), (0:Int), (0:Int), (0:Int), ([] : (List Int)), (0:Int), (0:Int), ())) (g.getD i ((0:Int), ([] : (List Int)), ())) = true := by
  unfold fitA at h
  simp only [Bool.and_eq_true, Bool.not_eq_true', List.any_eq_false, List.mem_range] at h
  have := h.2 i hi
  simpa [badF, -List.getD_eq_getElem?_getD] using this

theorem talk_eq (k : Nat) (b : List TVerb) (got : List (List TClocksOutcome)) (hb : KV b) (hk : b.length < k) (hl : b.length ≤ 1000) (hn : b ≠ []) : lease_talkOnce k b got = some (tk b got) := by
  have h0 : decide ((b.length : Int) = 0) = false := by cases b with | nil => exact absurd rfl hn | cons => simp <;> omega
  have h1 : decide ((0 : Int) < (b.length : Int)) = true := by cases b with | nil => exact absurd rfl hn | cons => simp <;> omega
  unfold lease_talkOnce
  simp only [talk_New, Option.bind_some, Option.isSome_some, cond_true, Option.getD_some, talk_Talk_Batch, h0, cond_false]
  cases got with
  | nil => simp only [List.length_nil, Int.natCast_zero, decide_true, cond_true, talk_Talk_Asking, h1, tk, Option.bind_some]
  | cons g rest =>
    have hz : decide ((((g :: rest).length : Nat) : Int) = 0) = false := by (simp <;> omega)
    have hp : (decide ((0:Int) ≤ (0:Int)) && decide ((0:Int) < (((g :: rest).length : Nat) : Int))) = true := by (simp <;> omega)
    have hq : (decide ((0:Int) ≤ (1:Int)) && decide ((1:Int) ≤ (((g :: rest).length : Nat) : Int)) && decide ((((g :: rest).length : Nat) : Int) ≤ (((g :: rest).length : Nat) : Int))) = true := by (simp <;> omega)
    simp only [hz, hp, cond_true, cond_false, show (g :: rest).getD 0 ([] : List TClocksOutcome) = g from rfl, fit_eq k b g hb hk hl, Option.bind_some, hq]
    cases hf : fitA b g with
    | false => simp [talk_Talk_Asking, tk, hf]
    | true =>
      have e := fitA_len hf
      cases rest with
      | nil => simp [talk_Talk_Asking, tk, hf, talk_Talk_Mismatch, first_eq k g (by omega) (by omega)]
      | cons x xs =>
        have hz : decide (0 < ((xs.length : Int) + 1 + 1).toNat - 1) = true := decide_eq_true (by omega)
        simp [talk_Talk_Asking, tk, hf, talk_Talk_Mismatch, hz]

theorem single_eq (k : Nat) (b : List TVerb) (got : List (List TClocksOutcome)) (hb : KV b) (hk : b.length < k) (hl : b.length ≤ 1000) (hn : b ≠ []) : bodegaref9_single k b got = some (sg b got) := by
  have h0 : decide ((b.length : Int) = 0) = false := by cases b with | nil => exact absurd rfl hn | cons => simp <;> omega
  unfold bodegaref9_single
  simp only [bodegaref9_talk_trip, h0, cond_false]
  cases got with
  | nil => simp [bodegaref9_talk_state, sg]
  | cons g rest =>
    have hz : decide ((0 : Int) = (((g :: rest).length : Nat) : Int)) = false := decide_eq_false (by simp only [List.length_cons]; omega)
    have hp : (decide ((0:Int) ≤ (0:Int)) && decide ((0:Int) < (((g :: rest).length : Nat) : Int))) = true := by (simp <;> omega)
    have hw : IntKind.i64.wrap (0 + 1) = 1 := by rfl
    simp only [hz, hp, cond_true, cond_false, show (g :: rest).getD (0 : Int).toNat ([] : List TClocksOutcome) = g from rfl, rfit_eq k b g hb hk hl, Option.bind_some, hw]
    cases hf : fitA b g with
    | false => simp [bodegaref9_talk_state, sg, hf]
    | true =>
      cases rest with
      | nil => simp [bodegaref9_talk_state, sg, hf]
      | cons x xs =>
        simp [bodegaref9_talk_state, sg, hf]
        omega

end Go.Proofs.YtkgjdglkkoabmaaGreat.N

namespace Go.Proofs.YtkgjdglkkoabmaaGreat.N
open Go.VL

/-! ### Words -/
def wordOk (l : Int) : Prop := 0 ≤ l ∧ l < 18446744073709551616
theorem wrap_ok (x : Int) : wordOk (IntKind.u64.wrap x) := by
  unfold wordOk
  simp only [IntKind.wrap, IntKind.bits, IntKind.signed]
  simp
  omega
theorem ior_ok (x y : Int) : wordOk (ior .u64 x y) := wrap_ok _
theorem ixor_ok (x y : Int) : wordOk (ixor .u64 x y) := wrap_ok _
theorem iand_ok (x y : Int) : wordOk (iand .u64 x y) := wrap_ok _
theorem ishl_ok (x y : Int) : wordOk (ishl .u64 x y) := wrap_ok _
theorem zero_ok : wordOk 0 := ⟨by omega, by omega⟩
theorem one_ok : wordOk 1 := ⟨by omega, by omega⟩

/-! ### Where a verb goes -/
def keyN (n : Int) : Int := if n < 0 ∨ 16 ≤ n then 0 else IntKind.u64.wrap ((IntKind.u64.wrap (IntKind.i64.wrap ((2:Int) * n))) + (1:Int))
def adr (v : TView) (m : TMember) (x : TVerb) : TVerb := (x.1, m.1, x.2.2.1, x.2.2.2.1, x.2.2.2.2.1, x.2.2.2.2.2.1, x.2.2.2.2.2.2.1, keyN v.1, m.2.1, x.2.2.2.2.2.2.2.2.2)

theorem rkey_eq (k : Nat) (n : Int) : ∃ c, bodegaref1_Key k n true = some (keyN n, c, ()) := by
  unfold bodegaref1_Key keyN
  by_cases h1 : n < 0
  · exact ⟨2, by simp [h1]⟩
  · by_cases h2 : 16 ≤ n
    · exact ⟨2, by simp [h1, h2]⟩
    · exact ⟨0, by simp [h1, h2]⟩

theorem radr_eq (k : Nat) (v : TView) (m : TMember) (x : TVerb) : bodegaref9_Address k v m true x = some (adr v m x, ()) := by
  obtain ⟨c, hc⟩ := rkey_eq k v.1
  unfold bodegaref9_Address
  dsimp only
  rw [hc]
  rfl

theorem adr_eq (k : Nat) (v : TView) (m : TMember) (x : TVerb) (h : x.2.2.2.2.2.2.1.length ≤ 1000) : view_Address k v m true x = some (adr v m x, ()) := by
  rw [address_eq k v m true x h, radr_eq]

theorem region_eq (k : Nat) (c a : Int) (h0 : 0 ≤ c) (h1 : c < 6) (ha : 0 ≤ a) (ha2 : a ≤ 100) : layout_region_1 k c 6 a = some (a * 8 + c, 6, a, ()) := by
  unfold layout_region_1
  have w1 : IntKind.i64.wrap (a * 8) = a * 8 := wrap_i64 (by omega) (by omega)
  have w2 : IntKind.i64.wrap (a * 8 + c) = a * 8 + c := wrap_i64 (by omega) (by omega)
  have h2 : ¬ c < 0 := by omega
  have h3 : ¬ 6 ≤ c := by omega
  simp [w1, w2, h2, h3]

theorem client_eq (k : Nat) (c : Int) : lease_isClient k c = some (decide (0 ≤ c) && decide (c < 6), ()) ∧ bodegaref1_Client k c = some (decide (0 ≤ c) && decide (c < 6), ()) := by
  unfold lease_isClient bodegaref1_Client
  cases decide (0 ≤ c) <;> exact ⟨rfl, rfl⟩

theorem lease_at (k : Nat) (c : Int) (h0 : 0 ≤ c) (h1 : c < 6) : layout_Lease k c = some (40 + c, ()) ∧ bodegaref1_LeaseAt k c = some (40 + c, ()) := by
  unfold layout_Lease bodegaref1_LeaseAt
  have w2 : IntKind.i64.wrap (40 + c) = 40 + c := wrap_i64 (by omega) (by omega)
  rw [region_eq k c 5 h0 h1 (by omega) (by omega), (client_eq k c).2]
  simp [h0, h1, w2]

theorem clock_at (k : Nat) (c : Int) (h0 : 0 ≤ c) (h1 : c < 6) : layout_Clock k c = some (32 + c, ()) ∧ bodegaref1_Clock k c = some (32 + c, ()) := by
  unfold layout_Clock bodegaref1_Clock
  have w2 : IntKind.i64.wrap (32 + c) = 32 + c := wrap_i64 (by omega) (by omega)
  rw [region_eq k c 4 h0 h1 (by omega) (by omega), (client_eq k c).2]
  simp [h0, h1, w2]

theorem inc_eq (k : Nat) (i : Int) : word_isInc k i = bodegaref1_Inc k i := by
  unfold word_isInc bodegaref1_Inc word_within
  rfl

theorem inc_val (k : Nat) (i : Int) : bodegaref1_Inc k i = some (decide ((1 ≤ i ∧ i ≤ 59) ∧ Int.tmod i 2 = 1), ()) := by
  unfold bodegaref1_Inc
  by_cases h1 : 1 ≤ i <;> by_cases h2 : i ≤ 59 <;> by_cases h3 : Int.tmod i 2 = 1 <;> simp [h1, h2, h3]

theorem wlease_eq (k : Nat) (i u : Int) : word_Lease k i u = bodegaref1_Lease k i u := by
  unfold word_Lease bodegaref1_Lease
  rw [inc_eq]
  unfold bodegaref1_Inc word_within
  simp only [Option.bind_some]
  by_cases h0 : 0 ≤ u
  · have h0' : ¬ u < 0 := by omega
    by_cases h1 : u ≤ 4294967295
    · have h1' : ¬ 4294967295 < u := by omega
      simp [h0, h1, h0', h1']
    · have h1' : 4294967295 < u := by omega
      simp [h0, h1, h0', h1']
  · have h0' : u < 0 := by omega
    simp [h0, h0']

def gotOk (got : List (List TClocksOutcome)) : Prop := ∀ g ∈ got, ∀ d ∈ g, ∀ x ∈ d.2.1, wordOk x

/-! ### What is asked -/
def goodV (v : TVerb) : Prop :=
  ∃ c : Int, 1 ≤ c ∧ c ≤ 8 ∧ ((v.1 = 1 ∧ v.2.2.2.1 = c) ∨ (v.1 = 2 ∧ (v.2.2.2.2.2.2.1.length : Int) = c)) ∧ 32 ≤ v.2.2.1 ∧ v.2.2.1 + c ≤ 48 ∧ v.2.2.1 % 8 + c ≤ 8 ∧ v.2.2.2.2.2.2.1.length ≤ 8 ∧ ∀ x ∈ v.2.2.2.2.2.2.1, wordOk x
def GB (b : List TVerb) : Prop := b.length ≤ 5 ∧ ∀ v ∈ b, goodV v

theorem GB.kv {b : List TVerb} (h : GB b) : KV b := by
  intro i hi
  obtain ⟨c, _, _, h3, _⟩ := h.2 _ (getD_mem hi)
  rcases h3 with h3 | h3
  · exact .inl h3.1
  · exact .inr h3.1

def rd (v : TView) (a n : Int) : List TVerb := [adr v (v.2.1.getD 0 ((0:Int), (0:Int), false, ())) ((1:Int), (0:Int), a, n, (0:Int), (0:Int), ([] : (List Int)), (0:Int), (0:Int), ())]
theorem rd_good (v : TView) (a n : Int) (h1 : 1 ≤ n) (h2 : n ≤ 8) (h3 : 32 ≤ a) (h4 : a + n ≤ 48) (h5 : a % 8 + n ≤ 8) : GB (rd v a n) := by
  refine ⟨by simp [rd], ?_⟩
  intro x hx
  simp only [rd, List.mem_singleton] at hx
  subst hx
  exact ⟨n, h1, h2, .inl ⟨rfl, rfl⟩, h3, h4, h5, by simp [adr], by simp [adr]⟩

def renB (v : TView) (c w : Int) : List TVerb := v.2.1.map fun m => adr v m ((2:Int), (0:Int), 40 + c, (0:Int), (0:Int), (0:Int), [w], (0:Int), (0:Int), ())
theorem renB_good (v : TView) (c w : Int) (hw : wordOk w) (hl : v.2.1.length ≤ 5) (h0 : 0 ≤ c) (h1 : c < 6) : GB (renB v c w) := by
  refine ⟨by simpa [renB] using hl, ?_⟩
  intro x hx
  simp only [renB, List.mem_map] at hx
  obtain ⟨m, _, rfl⟩ := hx
  exact ⟨1, by omega, by omega, .inr ⟨rfl, rfl⟩, by simp only [adr]; omega, by simp only [adr]; omega, by simp only [adr]; omega, by simp [adr], fun x hx => by simp only [adr, List.mem_singleton] at hx; rw [hx]; exact hw⟩

theorem same_refl (k : Nat) (b : List TVerb) (hb : GB b) (hk : 2000 ≤ k) : bodegaref4_SameAll k b b = some (true, ()) := by
  obtain ⟨hb1, hb2⟩ := hb
  have L : ∃ r, bodegaref4_SameAll_L1_it k b b 0 = some r ∧ r = Sum.inr () := by
    refine iterO_inv (fun i s => s = (b, b, (i : Int), ())) (fun r => r = Sum.inr ()) b.length ?_ k (by omega) _ rfl
    rintro i s hi rfl
    by_cases h : i < b.length
    · left
      have h1 : (decide ((i : Int) < (b.length : Int))) = true := decide_eq_true (by omega)
      obtain ⟨c, _, _, _, _, _, _, hw, _⟩ := hb2 _ (getD_mem (d := ((0:Int), (0:Int), (0:Int), (0:Int), (0:Int), (0:Int), ([] : (List Int)), (0:Int), (0:Int), ())) h)
      exact ⟨(b, b, ((i + 1 : Nat) : Int), ()), by simp only [bodegaref4_SameAll_L1, h1, z0, Bool.and_self, cond_true, Int.toNat_natCast, verb_refl k _ (Nat.lt_of_le_of_lt hw (by omega)) (Nat.le_trans hw (by omega)), Option.bind_some, Bool.not_true, cond_false, nx (show i < 2000 by omega)], h, rfl⟩
    · right
      have : i = b.length := by omega
      subst this
      exact ⟨_, by simp [bodegaref4_SameAll_L1], rfl⟩
  obtain ⟨r, h1, rfl⟩ := L
  unfold bodegaref4_SameAll
  rw [h1]
  simp

theorem renew_L (k : Nat) (got : List (List TClocksOutcome)) (j : TRenewJob) (out : Int × Unit) (w : Int) (hk : 2000 ≤ k) (hl : j.2.2.2.1.2.1.length ≤ 5) (h0 : 0 ≤ j.1) (h1 : j.1 < 6) :
    lease_Renew_L1_it k got j out w [] j.2.2.2.1.2.1 (j.2.2.2.1.2.1.length : Int) 0 = some (got, out, renB j.2.2.2.1 j.1 w, ()) := by
  obtain ⟨c, inc, u, v, ⟨⟩⟩ := j
  simp only at hl h0 h1 ⊢
  let g := fun m => adr v m ((2:Int), (0:Int), 40 + c, (0:Int), (0:Int), (0:Int), [w], (0:Int), (0:Int), ())
  have L : ∃ o, lease_Renew_L1_it k got (c, inc, u, v, ()) out w [] v.2.1 (v.2.1.length : Int) 0 = some o ∧ o = (got, out, renB v c w, ()) := by
    refine iterO_inv (fun i s => s = (got, (c, inc, u, v, ()), out, w, (v.2.1.take i).map g, v.2.1, (v.2.1.length : Int), (i : Int), ())) (fun o => o = (got, out, renB v c w, ())) v.2.1.length ?_ k (by omega) _ (by simp)
    rintro i s hi rfl
    by_cases h : i < v.2.1.length
    · left
      have h1' : (decide ((i : Int) < (v.2.1.length : Int))) = true := decide_eq_true (by omega)
      have ht : v.2.1.take (i + 1) = v.2.1.take i ++ [v.2.1.getD i ((0:Int), (0:Int), false, ())] := by rw [getD_lt h, List.take_succ_eq_append_getElem h]
      have hlen : ∀ x : TVerb, decide (((v.2.1.take i).map g).length + [x].length < 1073741824) = true := fun x => decide_eq_true (by simp; omega)
      refine ⟨_, ?_, h, rfl⟩
      simp only [lease_Renew_L1, h1', cond_true, (lease_at k c h0 h1).1, Option.bind_some, Int.toNat_natCast, hlen, nx (show i < 2000 by omega)]
      rw [adr_eq k _ _ _ (by simp)]
      simp only [Option.bind_some, ht, List.map_append, List.map_cons, List.map_nil]
      rfl
    · right
      have : i = v.2.1.length := by omega
      subst this
      exact ⟨_, by simp only [lease_Renew_L1]; simp; rfl, by simp [renB, g]⟩
  obtain ⟨o, h1, rfl⟩ := L
  exact h1

theorem rrenew_L (k : Nat) (got : List (List TClocksOutcome)) (c w : Int) (v : TView) (hk : 2000 ≤ k) (hl : v.2.1.length ≤ 5) (h0 : 0 ≤ c) (h1 : c < 6) :
    bodegaref9_Renew_L1_it k c got v w [] 0 = some (got, renB v c w, ()) := by
  let g := fun m => adr v m ((2:Int), (0:Int), 40 + c, (0:Int), (0:Int), (0:Int), [w], (0:Int), (0:Int), ())
  have L : ∃ o, bodegaref9_Renew_L1_it k c got v w [] 0 = some o ∧ o = (got, renB v c w, ()) := by
    refine iterO_inv (fun i s => s = (c, got, v, w, (v.2.1.take i).map g, (i : Int), ())) (fun o => o = (got, renB v c w, ())) v.2.1.length ?_ k (by omega) _ (by simp)
    rintro i s hi rfl
    by_cases h : i < v.2.1.length
    · left
      have h1' : (decide ((i : Int) < (v.2.1.length : Int))) = true := decide_eq_true (by omega)
      have ht : v.2.1.take (i + 1) = v.2.1.take i ++ [v.2.1.getD i ((0:Int), (0:Int), false, ())] := by rw [getD_lt h, List.take_succ_eq_append_getElem h]
      have hlen : ∀ x : TVerb, decide (((v.2.1.take i).map g).length + [x].length < 1073741824) = true := fun x => decide_eq_true (by simp; omega)
      refine ⟨_, ?_, h, rfl⟩
      simp only [bodegaref9_Renew_L1, h1', cond_true, (lease_at k c h0 h1).2, Option.bind_some, Int.toNat_natCast, bodegaref9_put, radr_eq, hlen, nx (show i < 2000 by omega), ht, List.map_append, List.map_cons, List.map_nil]
      rfl
    · right
      have : i = v.2.1.length := by omega
      subst this
      exact ⟨_, by simp only [bodegaref9_Renew_L1]; simp; rfl, by simp [renB, g]⟩
  obtain ⟨o, h1, rfl⟩ := L
  exact h1

theorem vv_ne {v : TView} {n : Int} (h : vv v n = 0) : v.2.1 ≠ [] := by
  intro e
  unfold vv at h
  rw [e] at h
  simp at h
  split at h <;> first | omega | (split at h <;> omega)

/-- what the renewal says -/
def renS (j : TRenewJob) (got : List (List TClocksOutcome)) (e w : Int) : List TVerb × Int × Bool :=
  if ¬ (0 ≤ j.1 ∧ j.1 < 6) then ([], 1, true)
  else if ¬ e = 0 then ([], e, true)
  else if ¬ vv j.2.2.2.1 5 = 0 then ([], vv j.2.2.2.1 5, true)
  else ((tk (renB j.2.2.2.1 j.1 w) got).1, (tk (renB j.2.2.2.1 j.1 w) got).2.2.1, (tk (renB j.2.2.2.1 j.1 w) got).2.2.2.1)

theorem renew_eq (k : Nat) (j : TRenewJob) (got : List (List TClocksOutcome)) (hk : 2000 ≤ k) (hl : j.2.2.2.1.2.1.length ≤ 5) :
    ∃ e w, wordOk w ∧ bodegaref1_Lease k j.2.1 j.2.2.1 = some (w, e, ()) ∧ lease_Renew k j got = some ((renS j got e w).1, ((renS j got e w).2.1, ()), (renS j got e w).2.2, ())
      ∧ bodegaref9_Renew k j.1 j.2.1 j.2.2.1 j.2.2.2.1 got = some ((renS j got e w).1, (renS j got e w).2.1, (renS j got e w).2.2, ()) := by
  obtain ⟨w, e, hww, hw⟩ : ∃ w e, wordOk w ∧ bodegaref1_Lease k j.2.1 j.2.2.1 = some (w, e, ()) := by
    unfold bodegaref1_Lease bodegaref1_Inc
    simp only [Option.bind_some]
    cases (!bif bif decide (1 ≤ j.2.1) then decide (j.2.1 ≤ 59) else false then decide (Int.tmod j.2.1 2 = 1) else false) with
    | true => exact ⟨_, _, zero_ok, rfl⟩
    | false =>
      cases (bif decide (j.2.2.1 < 0) then true else decide (4294967295 < j.2.2.1)) with
      | true => exact ⟨_, _, zero_ok, rfl⟩
      | false => exact ⟨_, _, ior_ok _ _, rfl⟩
  refine ⟨e, w, hww, hw, ?_⟩
  unfold lease_Renew bodegaref9_Renew renS
  rw [(client_eq k j.1).1, (client_eq k j.1).2, wlease_eq, hw]
  simp only [Option.bind_some]
  by_cases hc : 0 ≤ j.1 ∧ j.1 < 6
  · have hc' : (decide (0 ≤ j.1) && decide (j.1 < 6)) = true := by simp [hc]
    simp only [hc, and_self, not_true, if_false]
    by_cases he : e = 0
    · subst he
      simp only [lease_Renew_J1, decide_true, cond_true, valid_eq k _ 5 (show j.2.2.2.1.2.1.length < k by omega) (by omega), rvalid_eq k _ 5 (show j.2.2.2.1.2.1.length < k by omega) (by omega), Option.bind_some, Bool.not_true, cond_false, not_true, if_false]
      by_cases hv : vv j.2.2.2.1 5 = 0
      · have hg := renB_good j.2.2.2.1 j.1 w hww hl hc.1 hc.2
        have hne : renB j.2.2.2.1 j.1 w ≠ [] := by
          have := vv_ne hv
          simpa [renB] using this
        simp only [hv, decide_true, Bool.not_true, cond_false, not_true, if_false, renew_L k got j _ w hk hl hc.1 hc.2, rrenew_L k got j.1 w j.2.2.2.1 hk hl hc.1 hc.2, Option.bind_some,
          talk_eq k _ got hg.kv (show (renB j.2.2.2.1 j.1 w).length < k by have := hg.1; omega) (by have := hg.1; omega) hne, single_eq k _ got hg.kv (show (renB j.2.2.2.1 j.1 w).length < k by have := hg.1; omega) (by have := hg.1; omega) hne]
        cases got with
        | nil => exact ⟨rfl, rfl⟩
        | cons g rest =>
          simp only [tk, sg]
          cases hf : fitA (renB j.2.2.2.1 j.1 w) g with
          | false => exact ⟨rfl, rfl⟩
          | true =>
            have hlen := fitA_len hf
            cases rest with
            | nil =>
              simp only [if_true, cond_false, List.isEmpty_nil, Bool.and_self, Bool.not_true]
              rw [rfirst_eq k g (by have := hg.1; omega) (by have := hg.1; omega)]
              simp
            | cons x xs => exact ⟨rfl, rfl⟩
      · simp [hv]
    · simp [he, lease_Renew_J1]
  · have hc' : (decide (0 ≤ j.1) && decide (j.1 < 6)) = false := by
      rw [Bool.and_eq_false_iff]
      by_cases h : 0 ≤ j.1
      · right; simp; omega
      · left; simp; omega
    simp [hc', hc]

end Go.Proofs.YtkgjdglkkoabmaaGreat.N
