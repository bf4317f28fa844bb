import Derived.Test.YtkgjdglkkoabmaaGreatKC
import Derived.Test.YtkgjdglkkoabmaaGreatN5

namespace Go.Proofs.YtkgjdglkkoabmaaGreat.N
open Go.VL

/-! ### Peek -/
def spl (l : Int) : THolding := if (1 ≤ l / 4294967296 ∧ l / 4294967296 ≤ 59) ∧ Int.tmod (l / 4294967296) 2 = 1 then (l / 4294967296, l % 4294967296, ()) else (0, 0, ())

theorem hi_eq (l : Int) (h0 : 0 ≤ l) (h1 : l < 18446744073709551616) : ishr .u64 l 32 = l / 4294967296 := by
  obtain ⟨L, rfl⟩ : ∃ L : Nat, l = (L : Int) := ⟨l.toNat, by omega⟩
  have := ishr_u64 L 32 (by omega)
  rw [show ((32 : Nat) : Int) = 32 from rfl] at this
  rw [this]
  omega
theorem lo_eq (l : Int) (h0 : 0 ≤ l) (h1 : l < 18446744073709551616) : iand .u64 l 4294967295 = l % 4294967296 := by
  obtain ⟨L, rfl⟩ : ∃ L : Nat, l = (L : Int) := ⟨l.toNat, by omega⟩
  have := iand_u64 L 4294967295 (by omega) (by omega)
  rw [show ((4294967295 : Nat) : Int) = 4294967295 from rfl] at this
  rw [this, show (4294967295 : Nat) = 2 ^ 32 - 1 from rfl, and_pow]
  omega
theorem join_eq (l : Int) (h0 : 0 ≤ l) (h1 : l < 18446744073709551616) : ior .u64 (ishl .u64 (l / 4294967296) 32) (l % 4294967296) = l := by
  obtain ⟨L, rfl⟩ : ∃ L : Nat, l = (L : Int) := ⟨l.toNat, by omega⟩
  have e1 : ((L : Int) / 4294967296) = ((L / 4294967296 : Nat) : Int) := by omega
  have e2 : ((L : Int) % 4294967296) = ((L % 4294967296 : Nat) : Int) := by omega
  have h3 : L / 4294967296 * 2 ^ 32 + L % 4294967296 = L := by omega
  have h2 := ishl_u64 (L / 4294967296) 32 (by omega) (by omega)
  rw [show ((32 : Nat) : Int) = 32 from rfl] at h2
  rw [e1, e2, h2, ior_u64 _ _ (by omega) (by omega)]
  have h4 : L / 4294967296 * 2 ^ 32 ||| L % 4294967296 = L / 4294967296 * 2 ^ 32 + L % 4294967296 := by
    rw [← Nat.shiftLeft_eq, Nat.shiftLeft_add_eq_or_of_lt (by omega)]
  rw [h4, h3]

theorem rsplit_eq (k : Nat) (l : Int) (h0 : 0 ≤ l) (h1 : l < 18446744073709551616) : ∃ b, bodegaref1_SplitLease k l = some ((spl l).1, (spl l).2.1, b, ()) := by
  unfold bodegaref1_SplitLease spl
  rw [hi_eq l h0 h1, lo_eq l h0 h1, wrap_i64 (by omega) (by omega), wrap_i64 (by omega) (by omega), inc_val]
  by_cases h : (1 ≤ l / 4294967296 ∧ l / 4294967296 ≤ 59) ∧ Int.tmod (l / 4294967296) 2 = 1
  · exact ⟨true, by simp only [h, Option.bind_some]; simp⟩
  · exact ⟨false, by simp only [h, Option.bind_some]; simp⟩

theorem split_eq (k : Nat) (l : Int) (h0 : 0 ≤ l) (h1 : l < 18446744073709551616) : ∃ b, word_SplitLease k l = some ((spl l).1, (spl l).2.1, b, ()) := by
  have hm : word_mask k 32 = some (4294967295, ()) := by
    unfold word_mask
    rfl
  unfold word_SplitLease spl
  rw [hi_eq l h0 h1]
  simp only [word_SplitLease_J1, hm, Option.bind_some, lo_eq l h0 h1]
  rw [wrap_i64 (x := l / 4294967296) (by omega) (by omega), wrap_i64 (x := l % 4294967296) (by omega) (by omega)]
  by_cases hn : l / 4294967296 ≤ 59
  · simp only [hn, decide_true, cond_true, Option.bind_some, wlease_eq]
    unfold bodegaref1_Lease
    rw [inc_val]
    by_cases h : (1 ≤ l / 4294967296 ∧ l / 4294967296 ≤ 59) ∧ Int.tmod (l / 4294967296) 2 = 1
    · have hb : (bif decide (l % 4294967296 < 0) then true else decide (4294967295 < l % 4294967296)) = false := by
        have : ¬ l % 4294967296 < 0 := by omega
        simp [this]; omega
      have w1 : IntKind.u64.wrap (l / 4294967296) = l / 4294967296 := wrap_u64 (by omega) (by omega)
      have w2 : IntKind.u64.wrap (l % 4294967296) = l % 4294967296 := wrap_u64 (by omega) (by omega)
      refine ⟨true, ?_⟩
      simp only [h, hb, w1, w2, join_eq l h0 h1, Option.bind_some, and_self, decide_true, Bool.not_true, cond_false, if_true]
    · refine ⟨false, ?_⟩
      simp only [decide_eq_false h, Option.bind_some, Bool.not_false, cond_true]
      have h' : ¬ (1 ≤ l / 4294967296 ∧ Int.tmod (l / 4294967296) 2 = 1) := fun x => h ⟨⟨x.1, hn⟩, x.2⟩
      simp [h']
  · have hl0 : bodegaref1_Lease k 0 0 = some (0, 2, ()) := by
      unfold bodegaref1_Lease bodegaref1_Inc
      rfl
    simp only [hn, decide_false, cond_false, Option.bind_some, wlease_eq, hl0]
    exact ⟨false, by simp⟩


theorem peek_1 (k : Nat) (e : Int) (w : List Int) (hw : ∀ x ∈ w, wordOk x) (hk : 2000 ≤ k) (hl : w.length ≤ 1000) : lease_Peek_1 k e w = some ((e, w.map spl, ()), ()) := by
  have L : ∃ o, lease_Peek_1_L1_it k ((0:Int), ([] : (List THolding)), ()) (e, [], ()) w (w.length : Int) 0 = some o ∧ o = (((0:Int), ([] : (List THolding)), ()), (e, w.map spl, ()), ()) := by
    refine iterO_inv (fun i s => s = (((0:Int), ([] : (List THolding)), ()), (e, (w.take i).map spl, ()), w, (w.length : Int), (i : Int), ())) (fun o => o = (((0:Int), ([] : (List THolding)), ()), (e, w.map spl, ()), ())) w.length ?_ k (by omega) _ (by simp)
    rintro i s hi rfl
    by_cases h : i < w.length
    · left
      have h1' : (decide ((i : Int) < (w.length : Int))) = true := decide_eq_true (by omega)
      have ht : w.take (i + 1) = w.take i ++ [w.getD i (0:Int)] := by rw [getD_lt h, List.take_succ_eq_append_getElem h]
      have hlen : ∀ x : THolding, decide (((w.take i).map spl).length + [x].length < 1073741824) = true := fun x => decide_eq_true (by simp; omega)
      have hx := hw _ (getD_mem (d := (0:Int)) h)
      obtain ⟨b, hs⟩ := split_eq k _ hx.1 hx.2
      refine ⟨_, ?_, h, rfl⟩
      simp only [lease_Peek_1_L1, h1', cond_true, Option.bind_some, Int.toNat_natCast, hs, hlen, nx (show i < 2000 by omega), ht, List.map_append, List.map_cons, List.map_nil]
      rfl
    · right
      have : i = w.length := by omega
      subst this
      exact ⟨_, by simp only [lease_Peek_1_L1]; simp; rfl, by simp⟩
  obtain ⟨o, h1, rfl⟩ := L
  unfold lease_Peek_1
  rw [h1]
  rfl

theorem rpeek_L (k : Nat) (d : List TClocksOutcome) (hd : d.length = 1) (hw : ∀ x ∈ (d.getD 0 ((0:Int), ([] : (List Int)), ())).2.1, wordOk x) (hl : (d.getD 0 ((0:Int), ([] : (List Int)), ())).2.1.length = 6) (hk : 2000 ≤ k) :
    bodegaref9_Peek_L1_it k d [] 0 = some ((d.getD 0 ((0:Int), ([] : (List Int)), ())).2.1.map spl, ()) := by
  have L : ∃ o, bodegaref9_Peek_L1_it k d [] 0 = some o ∧ o = ((d.getD 0 ((0:Int), ([] : (List Int)), ())).2.1.map spl, ()) := by
    refine iterO_inv (fun i s => s = (d, ((d.getD 0 ((0:Int), ([] : (List Int)), ())).2.1.take i).map spl, (i : Int), ())) (fun o => o = ((d.getD 0 ((0:Int), ([] : (List Int)), ())).2.1.map spl, ())) 6 ?_ k (by omega) _ (by simp)
    rintro i s hi rfl
    by_cases h : i < 6
    · left
      have h' : i < (d.getD 0 ((0:Int), ([] : (List Int)), ())).2.1.length := by omega
      have h1' : (decide ((i : Int) < 6)) = true := decide_eq_true (by omega)
      have ht : (d.getD 0 ((0:Int), ([] : (List Int)), ())).2.1.take (i + 1) = (d.getD 0 ((0:Int), ([] : (List Int)), ())).2.1.take i ++ [(d.getD 0 ((0:Int), ([] : (List Int)), ())).2.1.getD i (0:Int)] := by rw [getD_lt h', List.take_succ_eq_append_getElem h']
      have hlen : ∀ x : THolding, decide ((((d.getD 0 ((0:Int), ([] : (List Int)), ())).2.1.take i).map spl).length + [x].length < 1073741824) = true := fun x => decide_eq_true (by simp; omega)
      have hx := hw _ (getD_mem (d := (0:Int)) h')
      obtain ⟨b, hs⟩ := rsplit_eq k _ hx.1 hx.2
      refine ⟨_, ?_, h, rfl⟩
      simp only [bodegaref9_Peek_L1, inb h', show (decide ((0:Int) ≤ (0:Int)) && decide ((0:Int) < (d.length : Int))) = true from inb (show 0 < d.length by omega), h1', cond_true, Option.bind_some, Int.toNat_natCast, hs, hlen, nx (show i < 2000 by omega), ht, List.map_append, List.map_cons, List.map_nil]
    · right
      have : i = 6 := by omega
      subst this
      exact ⟨(((d.getD 0 ((0:Int), ([] : (List Int)), ())).2.1.take 6).map spl, ()), by simp only [bodegaref9_Peek_L1]; rfl, by rw [List.take_of_length_le (by omega)]⟩
  obtain ⟨o, h1, rfl⟩ := L
  exact h1

def pkS (b : List TVerb) (got : List (List TClocksOutcome)) : List TVerb × Int × List THolding × Bool :=
  match rdE b got with
  | .ask => (b, 0, [], false)
  | .bad e => ([], e, [], true)
  | .good w => ([], 0, w.map spl, true)

theorem rdE_words {v : TView} {a n : Int} {got : List (List TClocksOutcome)} {w : List Int} (h : rdE (rd v a n) got = .good w) (hg : gotOk got) : ∀ x ∈ w, wordOk x := by
  obtain ⟨g, rfl, hl, _, _, rfl, _⟩ := rdE_good h
  exact hg g (by simp) _ (getD_mem (by omega))

theorem peek_rd (k : Nat) (v : TView) (a : Int) (got : List (List TClocksOutcome)) (hk : 2000 ≤ k) (hb : GB (rd v a 6)) (hv : v.2.1 ≠ []) (hg : gotOk got) :
    lease_readOnce_3_1 k v a 6 got = some ((pkS (rd v a 6) got).1, ((pkS (rd v a 6) got).2.1, (pkS (rd v a 6) got).2.2.1, ()), (pkS (rd v a 6) got).2.2.2, ()) := by
  obtain ⟨t, ht, hm⟩ := talk_rd k v a 6 got hk hb
  unfold lease_readOnce_3_1 pkS
  rw [prim_eq k v hv]
  simp only [Option.bind_some]
  rw [adr_eq k _ _ _ (by simp)]
  simp only [Option.bind_some]
  rw [show [adr v (v.2.1.getD 0 ((0:Int), (0:Int), false, ())) ((1:Int), (0:Int), a, (6:Int), (0:Int), (0:Int), ([] : (List Int)), (0:Int), (0:Int), ())] = rd v a 6 from rfl, ht]
  have c0 : ∀ e, lease_Peek_1 k e [] = some ((e, [], ()), ()) := fun e => peek_1 k e [] (by simp) hk (by simp)
  cases h : rdE (rd v a 6) got with
  | ask =>
    rw [h] at hm
    simp [hm.1, hm.2]
  | bad e =>
    rw [h] at hm
    have := rdE_bad h
    simp [hm.1, hm.2, this, c0]
  | good w =>
    have hws := rdE_words h hg
    rw [h] at hm
    obtain ⟨g, _, _, _, _, _, hl⟩ := rdE_good h
    obtain ⟨h1, h2, h3, h4⟩ := hm
    simp only [Option.bind_some, h1, h2, h3, h4, peek_1 k 0 w hws hk (by omega), decide_true, Bool.not_true, cond_false]
    rfl

def pekS (v : TView) (got : List (List TClocksOutcome)) : List TVerb × Int × List THolding × Bool :=
  if ¬ vv v 5 = 0 then ([], vv v 5, [], true) else pkS (rd v 40 6) got

theorem peek_eq (k : Nat) (v : TView) (got : List (List TClocksOutcome)) (hk : 2000 ≤ k) (hl : v.2.1.length ≤ 5) (hg : gotOk got) :
    lease_Peek k (v, ()) got = some ((pekS v got).1, ((pekS v got).2.1, (pekS v got).2.2.1, ()), (pekS v got).2.2.2, ()) := by
  unfold lease_Peek pekS
  simp only [valid_eq k v 5 (show v.2.1.length < k by omega) (by omega), Option.bind_some]
  by_cases hv : vv v 5 = 0
  · simp only [hv, decide_true, Bool.not_true, cond_false, not_true, if_false, (lease_at k 0 (by omega) (by omega)).1, Option.bind_some]
    rw [peek_rd k v _ got hk (rd_good v _ 6 (by omega) (by omega) (by omega) (by omega) (by omega)) (vv_ne hv) hg]
    rfl
  · simp [hv]

theorem rpeek_eq (k : Nat) (v : TView) (got : List (List TClocksOutcome)) (hk : 2000 ≤ k) (hl : v.2.1.length ≤ 5) (hg : gotOk got) :
    bodegaref9_Peek k v got = some ((pekS v got).1, (pekS v got).2.1, (pekS v got).2.2.1, (pekS v got).2.2.2, ()) := by
  unfold bodegaref9_Peek pekS
  simp only [rvalid_eq k v 5 (show v.2.1.length < k by omega) (by omega), Option.bind_some]
  by_cases hv : vv v 5 = 0
  · have hne := vv_ne hv
    have hpos : 0 < v.2.1.length := by cases h : v.2.1 with | nil => exact absurd h hne | cons => simp
    simp only [hv, decide_true, Bool.not_true, cond_false, not_true, if_false, (lease_at k 0 (by omega) (by omega)).2, Option.bind_some, rget_eq, show (decide ((0:Int) ≤ (0:Int)) && decide ((0:Int) < (v.2.1.length : Int))) = true from inb hpos, cond_true]
    rw [show ([(rd v (40 + 0) 6).getD 0 ((0:Int), (0:Int), (0:Int), (0:Int), (0:Int), (0:Int), ([] : (List Int)), (0:Int), (0:Int), ())] : List TVerb) = rd v 40 6 from rfl]
    obtain ⟨t, ht, hm⟩ := single_rd k v 40 6 got hk (rd_good v _ 6 (by omega) (by omega) (by omega) (by omega) (by omega))
    rw [ht]
    unfold pkS
    cases h : rdE (rd v 40 6) got with
    | ask =>
      rw [h] at hm
      simp only at hm
      simp [hm]
    | bad e =>
      rw [h] at hm
      have := rdE_bad h
      rcases hm with ⟨h1, ⟨h2, rfl⟩ | ⟨h2, h3, h4⟩⟩
      · simp [h1, h2]
      · simp [h1, h2, h4, this]
    | good w =>
      have hws := rdE_words h hg
      rw [h] at hm
      obtain ⟨g, _, _, _, _, _, hl⟩ := rdE_good h
      obtain ⟨h1, h2, h3, h4, h5⟩ := hm
      simp only [Option.bind_some, h1, h2, h4, cond_false, Bool.not_true, decide_true]
      rw [rpeek_L k t.1 h3 (by rw [h5]; exact hws) (by rw [h5]; omega) hk, h5]
      rfl
  · simp [hv]

end Go.Proofs.YtkgjdglkkoabmaaGreat.N
