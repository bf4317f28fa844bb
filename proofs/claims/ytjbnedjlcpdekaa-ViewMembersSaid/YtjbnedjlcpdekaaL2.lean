import Derived.Test.YtjbnedjlcpdekaaL1

namespace Go.Proofs.Ytjbnedjlcpdekaa.N
open Go.VL

/-! ### Finding a member -/
theorem range_find {α : Type} (xs : List α) (d : α) (p : α → Bool) : ((List.range xs.length).find? (fun i => p (xs.getD i d))).map (fun i => xs.getD i d) = xs.find? p := by
  have e : xs = (List.range xs.length).map (fun i => xs.getD i d) := by
    apply List.ext_getElem (by simp)
    intro i h1 h2
    simp [List.getD, h1]
  conv => rhs; rw [e]
  rw [List.find?_map]
  rfl

def findM (ms : List TMember) (node : Int) : TMember × Bool × Unit := ((ms.find? (fun m => decide (m.1 = node))).map fun m => (m, true, ())).getD (((0:Int), (0:Int), false, ()), false, ())

theorem find_eq (k : Nat) (v : TView) (node : Int) (hk : v.2.1.length < k) (hl : v.2.1.length ≤ 1000) : view_Find k v node = some (findM v.2.1 node) := by
  have L : view_Find_L1_it k node ((0:Int), (0:Int), false, ()) v.2.1 (v.2.1.length : Int) 0 =
      some (((List.range v.2.1.length).find? (fun i => decide ((v.2.1.getD i ((0:Int), (0:Int), false, ())).1 = node))).elim (Sum.inr (((0:Int), (0:Int), false, ()), ())) (fun i => Sum.inl (v.2.1.getD i ((0:Int), (0:Int), false, ()), true, ()))) := by
    refine iterO_find (fun i => (node, ((0:Int), (0:Int), false, ()), v.2.1, (v.2.1.length : Int), (i : Int), ())) (fun i => decide ((v.2.1.getD i ((0:Int), (0:Int), false, ())).1 = node)) (fun i => Sum.inl (v.2.1.getD i ((0:Int), (0:Int), false, ()), true, ())) (Sum.inr (((0:Int), (0:Int), false, ()), ())) v.2.1.length ?_ ?_ k hk
    · intro i hi
      have h1 : (decide ((i : Int) < (v.2.1.length : Int))) = true := by simp; omega
      simp only [view_Find_L1, nx (show i < 2000 by omega), Int.toNat_natCast, z0, h1, Bool.and_self, cond_true]
      by_cases c : (v.2.1.getD i ((0:Int), (0:Int), false, ())).1 = node <;> simp [c, -List.getD_eq_getElem?_getD]
    · simp [view_Find_L1]
  unfold view_Find
  rw [L]
  unfold findM
  rw [← range_find v.2.1 ((0:Int), (0:Int), false, ()) (fun m => decide (m.1 = node))]
  cases (List.range v.2.1.length).find? (fun i => decide ((v.2.1.getD i ((0:Int), (0:Int), false, ())).1 = node)) <;> rfl

theorem rfind_eq (k : Nat) (v : TView) (node : Int) (hk : v.2.1.length < k) (hl : v.2.1.length ≤ 1000) : bodegaref9_Find k v node = some (findM v.2.1 node) := by
  have L : bodegaref9_Find_L1_it k node v ((0:Int), (0:Int), false, ()) 0 =
      some (((List.range v.2.1.length).find? (fun i => decide ((v.2.1.getD i ((0:Int), (0:Int), false, ())).1 = node))).elim (Sum.inr (((0:Int), (0:Int), false, ()), ())) (fun i => Sum.inl (v.2.1.getD i ((0:Int), (0:Int), false, ()), true, ()))) := by
    refine iterO_find (fun i => (node, v, ((0:Int), (0:Int), false, ()), (i : Int), ())) (fun i => decide ((v.2.1.getD i ((0:Int), (0:Int), false, ())).1 = node)) (fun i => Sum.inl (v.2.1.getD i ((0:Int), (0:Int), false, ()), true, ())) (Sum.inr (((0:Int), (0:Int), false, ()), ())) v.2.1.length ?_ ?_ k hk
    · intro i hi
      have h1 : (decide ((i : Int) < (v.2.1.length : Int))) = true := by simp; omega
      simp only [bodegaref9_Find_L1, nx (show i < 2000 by omega), Int.toNat_natCast, z0, h1, Bool.and_self, cond_true]
      by_cases c : (v.2.1.getD i ((0:Int), (0:Int), false, ())).1 = node <;> simp [c, -List.getD_eq_getElem?_getD]
    · simp [bodegaref9_Find_L1]
  unfold bodegaref9_Find
  rw [L]
  unfold findM
  rw [← range_find v.2.1 ((0:Int), (0:Int), false, ()) (fun m => decide (m.1 = node))]
  cases (List.range v.2.1.length).find? (fun i => decide ((v.2.1.getD i ((0:Int), (0:Int), false, ())).1 = node)) <;> rfl

/-! ### The next view -/
def badB (boots : List Int) (i : Nat) : Bool := bif decide (boots.getD i 0 < 0) then true else decide (31 < boots.getD i 0)
def nextM (ms : List TMember) (opened : Bool) (b : Int) (i : Nat) : TMember :=
  ((i : Int), b, (bif (bif (findM ms (i : Int)).2.1 then decide ((findM ms (i : Int)).1.2.1 = b) else false) then (bif (findM ms (i : Int)).1.2.2.1 then true else opened) else false), ())
def propM (ms : List TMember) (opened : Bool) (boots : List Int) : Nat → List TMember
  | 0 => []
  | i + 1 => propM ms opened boots i ++ (if boots.getD i 0 = 0 then [] else [nextM ms opened (boots.getD i 0) i])

theorem propM_len (ms : List TMember) (opened : Bool) (boots : List Int) : ∀ i, (propM ms opened boots i).length ≤ i
  | 0 => by simp [propM]
  | i + 1 => by
    have := propM_len ms opened boots i
    simp only [propM, List.length_append]
    split <;> simp <;> omega

theorem prop_L (k : Nat) (o : Bool) (boots : List Int) (v t : TView) (num : Int) (hb : boots.length < k) (hbl : boots.length ≤ 1000) (hk : v.2.1.length < k) (hl : v.2.1.length ≤ 1000) :
    view_Propose_L1_it k o boots v t (num, [], ()) boots (boots.length : Int) 0 =
      some (bif (List.range boots.length).any (badB boots) then Sum.inl (((0:Int), [], ()), 2, ()) else Sum.inr (boots, t, (num, propM v.2.1 o boots boots.length, ()), ())) := by
  have L : ∃ r, view_Propose_L1_it k o boots v t (num, [], ()) boots (boots.length : Int) 0 = some r ∧
      r = bif (List.range boots.length).any (badB boots) then Sum.inl (((0:Int), [], ()), 2, ()) else Sum.inr (boots, t, (num, propM v.2.1 o boots boots.length, ()), ()) := by
    refine iterO_inv (fun i s => s = (o, boots, v, t, (num, propM v.2.1 o boots i, ()), boots, (boots.length : Int), (i : Int), ()) ∧ ∀ j, j < i → badB boots j = false) (fun r => r = bif (List.range boots.length).any (badB boots) then Sum.inl (((0:Int), [], ()), 2, ()) else Sum.inr (boots, t, (num, propM v.2.1 o boots boots.length, ()), ()))
      boots.length ?_ k hb _ ⟨rfl, fun j hj => by omega⟩
    rintro i s hi ⟨rfl, hbad⟩
    by_cases h : i < boots.length
    · have h1 : (decide ((i : Int) < (boots.length : Int))) = true := by simp; omega
      have hlen := propM_len v.2.1 o boots i
      have h2 : ∀ x : TMember, decide ((propM v.2.1 o boots i).length + [x].length < 1073741824) = true := fun x => decide_eq_true (by simp; omega)
      have hbd : (bif decide (boots.getD i 0 < 0) then true else decide (31 < boots.getD i 0)) = badB boots i := rfl
      cases hx : badB boots i with
      | true =>
        right
        refine ⟨Sum.inl (((0:Int), [], ()), 2, ()), ?_, ?_⟩
        · simp only [view_Propose_L1, h1, z0, Bool.and_self, cond_true, Int.toNat_natCast, hbd, hx]
        · have : (List.range boots.length).any (badB boots) = true := List.any_eq_true.2 ⟨i, List.mem_range.2 h, hx⟩
          rw [this]; rfl
      | false =>
        left
        refine ⟨(o, boots, v, t, (num, propM v.2.1 o boots (i + 1), ()), boots, (boots.length : Int), ((i + 1 : Nat) : Int), ()), ?_, h, rfl, fun j hj => ?_⟩
        · simp only [view_Propose_L1, h1, z0, Bool.and_self, cond_true, cond_false, Int.toNat_natCast, hbd, hx, find_eq k v (i : Int) hk hl, Option.bind_some, h2, nx (show i < 2000 by omega), propM]
          by_cases h0 : boots.getD i 0 = 0
          · simp only [h0, decide_true, cond_true, if_true, List.append_nil]
          · simp only [h0, decide_false, cond_false, if_false, nextM]
        · by_cases hj2 : j = i
          · rw [hj2]; exact hx
          · exact hbad j (by omega)
    · right
      have : i = boots.length := by omega
      subst this
      have hn : (List.range boots.length).any (badB boots) = false := by
        rw [Bool.eq_false_iff]
        intro ha
        obtain ⟨j, hj, hb⟩ := List.any_eq_true.1 ha
        rw [hbad j (List.mem_range.1 hj)] at hb
        cases hb
      refine ⟨_, ?_, rfl⟩
      rw [hn]
      simp [view_Propose_L1]
  obtain ⟨r, h1, rfl⟩ := L
  exact h1

theorem rprop_L (k : Nat) (o : Bool) (boots : List Int) (v t : TView) (num : Int) (hb : boots.length < k) (hbl : boots.length ≤ 1000) (hk : v.2.1.length < k) (hl : v.2.1.length ≤ 1000) :
    bodegaref9_Propose_L1_it k o boots v t (num, [], ()) 0 =
      some (bif (List.range boots.length).any (badB boots) then Sum.inl (((0:Int), [], ()), 2, ()) else Sum.inr (boots, t, (num, propM v.2.1 o boots boots.length, ()), ())) := by
  have L : ∃ r, bodegaref9_Propose_L1_it k o boots v t (num, [], ()) 0 = some r ∧
      r = bif (List.range boots.length).any (badB boots) then Sum.inl (((0:Int), [], ()), 2, ()) else Sum.inr (boots, t, (num, propM v.2.1 o boots boots.length, ()), ()) := by
    refine iterO_inv (fun i s => s = (o, boots, v, t, (num, propM v.2.1 o boots i, ()), (i : Int), ()) ∧ ∀ j, j < i → badB boots j = false) (fun r => r = bif (List.range boots.length).any (badB boots) then Sum.inl (((0:Int), [], ()), 2, ()) else Sum.inr (boots, t, (num, propM v.2.1 o boots boots.length, ()), ()))
      boots.length ?_ k hb _ ⟨rfl, fun j hj => by omega⟩
    rintro i s hi ⟨rfl, hbad⟩
    by_cases h : i < boots.length
    · have h1 : (decide ((i : Int) < (boots.length : Int))) = true := by simp; omega
      have hlen := propM_len v.2.1 o boots i
      have h2 : ∀ x : TMember, decide ((propM v.2.1 o boots i).length + [x].length < 1073741824) = true := fun x => decide_eq_true (by simp; omega)
      have hbd : (bif decide (boots.getD i 0 < 0) then true else decide (31 < boots.getD i 0)) = badB boots i := rfl
      cases hx : badB boots i with
      | true =>
        right
        refine ⟨Sum.inl (((0:Int), [], ()), 2, ()), ?_, ?_⟩
        · simp only [bodegaref9_Propose_L1, h1, z0, Bool.and_self, Bool.true_or, cond_true, Int.toNat_natCast, hbd, hx]
        · have : (List.range boots.length).any (badB boots) = true := List.any_eq_true.2 ⟨i, List.mem_range.2 h, hx⟩
          rw [this]; rfl
      | false =>
        left
        have hpos : decide (0 < boots.getD i 0) = !decide (boots.getD i 0 = 0) := by
          unfold badB at hx
          by_cases hn : boots.getD i 0 < 0
          · rw [decide_eq_true hn] at hx; cases hx
          · by_cases h0 : boots.getD i 0 = 0
            · rw [decide_eq_true h0, decide_eq_false (by omega)]; rfl
            · rw [decide_eq_false h0, decide_eq_true (by omega)]; rfl
        refine ⟨(o, boots, v, t, (num, propM v.2.1 o boots (i + 1), ()), ((i + 1 : Nat) : Int), ()), ?_, h, rfl, fun j hj => ?_⟩
        · simp only [bodegaref9_Propose_L1, h1, z0, Bool.and_self, Bool.true_or, cond_true, cond_false, Int.toNat_natCast, hbd, hx, rfind_eq k v (i : Int) hk hl, Option.bind_some, h2, nx (show i < 2000 by omega), propM, hpos]
          by_cases h0 : boots.getD i 0 = 0
          · simp only [h0, decide_true, Bool.not_true, cond_false, if_true, List.append_nil]
          · simp only [h0, decide_false, Bool.not_false, cond_true, if_false, nextM]
        · by_cases hj2 : j = i
          · rw [hj2]; exact hx
          · exact hbad j (by omega)
    · right
      have : i = boots.length := by omega
      subst this
      have hn : (List.range boots.length).any (badB boots) = false := by
        rw [Bool.eq_false_iff]
        intro ha
        obtain ⟨j, hj, hb⟩ := List.any_eq_true.1 ha
        rw [hbad j (List.mem_range.1 hj)] at hb
        cases hb
      refine ⟨_, ?_, rfl⟩
      rw [hn]
      simp [bodegaref9_Propose_L1]
  obtain ⟨r, h1, rfl⟩ := L
  exact h1

def propV (v : TView) (o : Bool) (boots : List Int) : TView × Int × Unit :=
  if ¬ vv v (boots.length : Int) = 0 then (((0:Int), [], ()), vv v (boots.length : Int), ())
  else if (List.range boots.length).any (badB boots) = true then (((0:Int), [], ()), 2, ())
  else if 16 ≤ IntKind.i64.wrap (v.1 + 1) then (((0:Int), [], ()), 12, ())
  else if 2 * (propM v.2.1 o boots boots.length).length ≤ boots.length then (((0:Int), [], ()), 9, ())
  else if (propM v.2.1 o boots boots.length).any (·.2.2.1) = true then ((IntKind.i64.wrap (v.1 + 1), propM v.2.1 o boots boots.length, ()), 0, ())
  else (((0:Int), [], ()), 13, ())

theorem prop_eq (k : Nat) (v : TView) (o : Bool) (boots : List Int) (hb : boots.length < k) (hbl : boots.length ≤ 1000) (hk : v.2.1.length < k) (hl : v.2.1.length ≤ 1000) : view_Propose k v o boots = some (propV v o boots) := by
  unfold view_Propose propV
  rw [valid_eq k v _ hk hl]
  simp only [Option.bind_some]
  by_cases h1 : vv v (boots.length : Int) = 0
  · simp only [h1, decide_true, Bool.not_true, cond_false, not_true, if_false]
    rw [prop_L k o boots v _ _ hb hbl hk hl]
    by_cases h2 : (List.range boots.length).any (badB boots) = true
    · simp only [h2, cond_true, Option.bind_some, Sum.elim_inl, if_true]
    · simp only [h2, cond_false, Option.bind_some, Sum.elim_inr, Bool.false_eq_true, if_false]
      by_cases h3 : 16 ≤ IntKind.i64.wrap (v.1 + 1)
      · simp only [h3, decide_true, cond_true, if_true]
      · simp only [h3, decide_false, cond_false, if_false]
        have hlen := propM_len v.2.1 o boots boots.length
        have hw : IntKind.i64.wrap (2 * ((propM v.2.1 o boots boots.length).length : Int)) = 2 * ((propM v.2.1 o boots boots.length).length : Int) := wrap_i64 (by omega) (by omega)
        rw [hw, isFull_any k _ (by omega) (by omega)]
        by_cases h4 : 2 * (propM v.2.1 o boots boots.length).length ≤ boots.length
        · have h4' : 2 * ((propM v.2.1 o boots boots.length).length : Int) ≤ (boots.length : Int) := by omega
          simp only [h4, h4', decide_true, cond_true, if_true]
        · have h4' : ¬ 2 * ((propM v.2.1 o boots boots.length).length : Int) ≤ (boots.length : Int) := by omega
          simp only [h4, h4', decide_false, cond_false, if_false, Option.bind_some]
          cases (propM v.2.1 o boots boots.length).any (·.2.2.1) <;> rfl
  · simp only [h1, decide_false, Bool.not_false, cond_true, not_false_iff, if_true]

theorem maj_eq (k : Nat) (n : Nat) (h : n ≤ 1000) : bodegaref9_Majority k (n : Int) = some ((if n < 1 then 0 else ((n / 2 + 1 : Nat) : Int)), ()) := by
  unfold bodegaref9_Majority
  by_cases h0 : n < 1
  · have : (n : Int) < 1 := by omega
    simp [h0, this]
  · have h1 : ¬ (n : Int) < 1 := by omega
    have h2 : Int.tdiv (n : Int) 2 = ((n / 2 : Nat) : Int) := by
      rw [Int.tdiv_eq_ediv_of_nonneg (by omega)]; omega
    simp only [h0, h1, decide_false, cond_false, if_false, h2]
    rw [wrap_i64 (x := ((n / 2 : Nat) : Int)) (by omega) (by omega), wrap_i64 (by omega) (by omega)]
    rfl

theorem rprop_eq (k : Nat) (v : TView) (o : Bool) (boots : List Int) (hb : boots.length < k) (hbl : boots.length ≤ 1000) (hk : v.2.1.length < k) (hl : v.2.1.length ≤ 1000) : bodegaref9_Propose k v o boots = some (propV v o boots) := by
  unfold bodegaref9_Propose propV
  rw [rvalid_eq k v _ hk hl]
  simp only [Option.bind_some]
  by_cases h1 : vv v (boots.length : Int) = 0
  · simp only [h1, decide_true, Bool.not_true, cond_false, not_true, if_false]
    rw [rprop_L k o boots v _ _ hb hbl hk hl]
    by_cases h2 : (List.range boots.length).any (badB boots) = true
    · simp only [h2, cond_true, Option.bind_some, Sum.elim_inl, if_true]
    · simp only [h2, cond_false, Option.bind_some, Sum.elim_inr, Bool.false_eq_true, if_false]
      by_cases h3 : 16 ≤ IntKind.i64.wrap (v.1 + 1)
      · simp only [h3, decide_true, cond_true, if_true]
      · simp only [h3, decide_false, cond_false, if_false]
        have hlen := propM_len v.2.1 o boots boots.length
        have hn := ((vv_zero _ _).1 h1).n
        rw [maj_eq k boots.length hbl, full_eq k _ (by simp only; omega) (by simp only; omega)]
        have hnb : ¬ boots.length < 1 := by omega
        simp only [Option.bind_some, if_neg hnb]
        by_cases h4 : 2 * (propM v.2.1 o boots boots.length).length ≤ boots.length
        · have h4' : ((propM v.2.1 o boots boots.length).length : Int) < ((boots.length / 2 + 1 : Nat) : Int) := by omega
          simp only [h4, h4', decide_true, cond_true, if_true]
        · have h4' : ¬ ((propM v.2.1 o boots boots.length).length : Int) < ((boots.length / 2 + 1 : Nat) : Int) := by omega
          simp only [h4, h4', decide_false, cond_false, if_false]
          by_cases h5 : (propM v.2.1 o boots boots.length).any (·.2.2.1) = true
          · have h6 := (any_filter _ _).1 h5
            have h7 : ¬ (((propM v.2.1 o boots boots.length).filter (·.2.2.1)).length : Int) = 0 := by
              intro h; exact h6 (List.eq_nil_of_length_eq_zero (by omega))
            simp only [h5, h7, decide_false, cond_false, if_true]
          · have h6 : (propM v.2.1 o boots boots.length).filter (·.2.2.1) = [] := by
              false_or_by_contra
              rename_i h
              exact h5 ((any_filter _ _).2 h)
            simp only [h5, Bool.false_eq_true, if_false, h6, List.length_nil]
            rfl
  · simp only [h1, decide_false, Bool.not_false, cond_true, not_false_iff, if_true]

theorem propV_len (v : TView) (o : Bool) (boots : List Int) : (propV v o boots).1.2.1.length ≤ boots.length := by
  have := propM_len v.2.1 o boots boots.length
  unfold propV
  split
  · simp
  split
  · simp
  split
  · simp
  split
  · simp
  split
  · exact this
  · simp

theorem proposes_J (k : Nat) (o : Bool) (boots raw : List Int) (v : TView) (near : Bool) (hb : boots.length ≤ 1000) (hbk : boots.length < k) (hk : v.2.1.length < k) (hl : v.2.1.length ≤ 1000) :
    ∃ bs, bodegalaw10_ViewProposes_J1 k o boots raw v near = some (o, bs, raw, v, ()) ∧ bs.length = boots.length := by
  unfold bodegalaw10_ViewProposes_J1
  cases near with
  | false => exact ⟨boots, rfl, rfl⟩
  | true =>
    have h1 : decide (([] : List Int).length + boots.length < 1073741824) = true := decide_eq_true (by simp; omega)
    simp only [cond_true, h1, List.nil_append]
    have L : ∃ r, bodegalaw10_ViewProposes_L1_it k o boots raw v 0 = some r ∧ ∃ bs : List Int, r = (o, bs, raw, v, ()) ∧ bs.length = boots.length := by
      refine iterO_inv (fun i s => ∃ bs : List Int, s = (o, bs, raw, v, (i : Int), ()) ∧ bs.length = boots.length) (fun r => ∃ bs : List Int, r = (o, bs, raw, v, ()) ∧ bs.length = boots.length) boots.length ?_ k hbk _ ⟨boots, rfl, rfl⟩
      rintro i s hi ⟨bs, rfl, hbs⟩
      by_cases h : i < boots.length
      · left
        have h2 : (decide ((i : Int) < (bs.length : Int))) = true := decide_eq_true (by omega)
        have h3 : ∀ x, (decide ((i : Int) < ((bs.set i x).length : Int))) = true := fun x => decide_eq_true (by rw [List.length_set]; omega)
        simp only [bodegalaw10_ViewProposes_L1, h2, z0, Bool.and_self, cond_true, Int.toNat_natCast, pick_pos k _ 4 (show (1:Int) ≤ 4 by omega) (by omega), Option.bind_some, rfind_eq k v (i : Int) hk hl, h3, Bool.true_or, nx (show i < 2000 by omega)]
        cases (bif (findM v.2.1 (i : Int)).2.1 then decide ((1:Int) < (bs.set i (bs.getD i 0 % 4)).getD i 0) else false) with
        | true => exact ⟨_, rfl, h, _, rfl, by simp [hbs]⟩
        | false => exact ⟨_, rfl, h, _, rfl, by simp [hbs]⟩
      · right
        have h2 : (decide ((i : Int) < (bs.length : Int))) = false := decide_eq_false (by omega)
        simp only [bodegalaw10_ViewProposes_L1, h2, cond_false]
        exact ⟨_, rfl, bs, rfl, hbs⟩
    obtain ⟨r, hr, bs, rfl, hbs⟩ := L
    rw [hr]
    exact ⟨bs, rfl, hbs⟩

theorem proposes_true (k : Nat) (hk : 2000 ≤ k) (r : TRaw) (o : Bool) (boots : List Int) (near : Bool) (raw : List Int) : bodegalaw10_ViewProposes k r o boots near raw = some (true, ()) := by
  unfold bodegalaw10_ViewProposes
  by_cases c1 : (8:Int) < (r.2.2.2.2.2.1.length : Int)
  · simp [c1]
  by_cases c2 : (8:Int) < (boots.length : Int)
  · simp [c2]
  by_cases c3 : (8:Int) < (raw.length : Int)
  · simp [c3]
  simp only [c1, c2, c3, decide_false, cond_false]
  obtain ⟨v, hv, hvl⟩ := of_ex k r (by omega) (by omega)
  rw [hv]
  simp only [Option.bind_some]
  obtain ⟨bs, hbs, hbl⟩ := proposes_J k o boots raw v near (by omega) (by omega) (by omega) (by omega)
  rw [hbs]
  simp only [Option.bind_some]
  rw [prop_eq k v o bs (by omega) (by omega) (by omega) (by omega), rprop_eq k v o bs (by omega) (by omega) (by omega) (by omega), prop_eq k v o raw (by omega) (by omega) (by omega) (by omega), rprop_eq k v o raw (by omega) (by omega) (by omega) (by omega), awake_eq k (by omega)]
  have l1 := propV_len v o bs
  have l2 := propV_len v o raw
  simp only [Option.bind_some, decide_true, cond_true]
  rw [same_eq k _ _ (by omega) (by omega), same_eq k _ _ (by omega) (by omega)]
  simp

end Go.Proofs.Ytjbnedjlcpdekaa.N

namespace Go.Proofs.Ytjbnedjlcpdekaa.N
open Go.VL

/-! ### What a proposed view keeps -/
theorem propM_mem (ms : List TMember) (o : Bool) (boots : List Int) : ∀ i m, m ∈ propM ms o boots i → ∃ j, j < i ∧ boots.getD j 0 ≠ 0 ∧ m = nextM ms o (boots.getD j 0) j
  | 0, m, h => by simp [propM] at h
  | i + 1, m, h => by
    simp only [propM, List.mem_append] at h
    rcases h with h | h
    · obtain ⟨j, h1, h2⟩ := propM_mem ms o boots i m h
      exact ⟨j, by omega, h2⟩
    · by_cases h0 : boots.getD i 0 = 0
      · rw [if_pos h0] at h; simp at h
      · rw [if_neg h0] at h
        exact ⟨i, by omega, h0, by simpa using h⟩

theorem propM_asc (ms : List TMember) (o : Bool) (boots : List Int) : ∀ i j, j + 1 < (propM ms o boots i).length → ((propM ms o boots i).getD j ((0:Int), (0:Int), false, ())).1 < ((propM ms o boots i).getD (j + 1) ((0:Int), (0:Int), false, ())).1
  | 0, j, h => by simp [propM] at h
  | i + 1, j, h => by
    simp only [propM] at h ⊢
    by_cases h0 : boots.getD i 0 = 0
    · rw [if_pos h0, List.append_nil] at h ⊢
      exact propM_asc ms o boots i j h
    · rw [if_neg h0] at h ⊢
      have hz : (nextM ms o (boots.getD i 0) i).1 = (i : Int) := rfl
      generalize nextM ms o (boots.getD i 0) i = z at *
      rw [List.length_append, List.length_singleton] at h
      by_cases hj : j + 1 < (propM ms o boots i).length
      · have := propM_asc ms o boots i j hj
        rw [getD_lt hj, getD_lt (by omega)] at this
        rw [getD_lt (by simp; omega), getD_lt (by simp; omega), List.getElem_append_left (by omega), List.getElem_append_left hj]
        exact this
      · have hjl : j + 1 = (propM ms o boots i).length := by omega
        obtain ⟨q, hq1, _, hq2⟩ := propM_mem ms o boots i _ (List.getElem_mem (show j < (propM ms o boots i).length by omega))
        rw [getD_lt (by simp; omega), getD_lt (by simp; omega), List.getElem_append_left (by omega), List.getElem_append_right (by omega), hq2]
        simp only [nextM, List.getElem_singleton, hz]
        omega

theorem prop_good {v : TView} {o : Bool} {boots : List Int} (h : (propV v o boots).2.1 = 0) :
    (propV v o boots).1 = (v.1 + 1, propM v.2.1 o boots boots.length, ()) ∧ Good (propV v o boots).1 (boots.length : Int) ∧ ¬ 2 * (propM v.2.1 o boots boots.length).length ≤ boots.length := by
  unfold propV at h ⊢
  split at h
  · rename_i h1; exact absurd h h1
  rename_i h1
  rw [if_neg h1]
  split at h
  · simp at h
  rename_i h2
  rw [if_neg h2]
  split at h
  · simp at h
  rename_i h3
  rw [if_neg h3]
  split at h
  · simp at h
  rename_i h4
  rw [if_neg h4]
  split at h
  case isFalse => simp at h
  rename_i h5
  rw [if_pos h5]
  have g := (vv_zero _ _).1 (by simpa using h1)
  have hnum := g.num
  have hw : IntKind.i64.wrap (v.1 + 1) = v.1 + 1 := wrap_i64 (by omega) (by omega)
  rw [hw] at h3 ⊢
  refine ⟨rfl, ?_, h4⟩
  have hbad : ∀ j, j < boots.length → 0 ≤ boots.getD j 0 ∧ boots.getD j 0 ≤ 31 := fun j hj => by
    have : badB boots j = false := by
      cases hb : badB boots j with
      | false => rfl
      | true => exact absurd (List.any_eq_true.2 ⟨j, List.mem_range.2 hj, hb⟩) h2
    unfold badB at this
    by_cases hn : boots.getD j 0 < 0
    · rw [decide_eq_true hn] at this; cases this
    · rw [decide_eq_false hn, cond_false, decide_eq_false_iff_not] at this
      omega
  refine ⟨g.n, ⟨by simp only; omega, by simp only; omega⟩, ?_, fun i hi => ?_, fun i hi => propM_asc v.2.1 o boots boots.length i hi, h5⟩
  · intro hnil
    simp only at hnil
    rw [hnil] at h4
    simp at h4
  · simp only at hi ⊢
    obtain ⟨j, hj, hj0, hm⟩ := propM_mem v.2.1 o boots boots.length _ (List.getElem_mem hi)
    rw [getD_lt hi, hm]
    have := hbad j hj
    simp only [nextM]
    omega

theorem prop_fail {v : TView} {o : Bool} {boots : List Int} (h : ¬ (propV v o boots).2.1 = 0) : (propV v o boots).1 = ((0:Int), [], ()) := by
  unfold propV at h ⊢
  split at h
  · rename_i h1; rw [if_pos h1]
  rename_i h1
  rw [if_neg h1]
  split at h
  · rename_i h2; rw [if_pos h2]
  rename_i h2
  rw [if_neg h2]
  split at h
  · rename_i h3; rw [if_pos h3]
  rename_i h3
  rw [if_neg h3]
  split at h
  · rename_i h4; rw [if_pos h4]
  rename_i h4
  rw [if_neg h4]
  split at h
  · simp at h
  rename_i h5
  rw [if_neg h5]

theorem keeps_L (k : Nat) (o : Bool) (boots : List Int) (v : TView) (num : Int) (hb : boots.length ≤ 1000) (hbk : boots.length < k) (hk : v.2.1.length < k) (hl : v.2.1.length ≤ 1000) :
    bodegalaw10_ViewKeeps_L1_it k o boots v (num, propM v.2.1 o boots boots.length, ()) 0 = some (Sum.inr ()) := by
  have hlen := propM_len v.2.1 o boots boots.length
  have L : ∃ r, bodegalaw10_ViewKeeps_L1_it k o boots v (num, propM v.2.1 o boots boots.length, ()) 0 = some r ∧ r = Sum.inr () := by
    refine iterO_inv (fun i s => s = (o, boots, v, (num, propM v.2.1 o boots boots.length, ()), (i : Int), ())) (fun r => r = Sum.inr ()) (propM v.2.1 o boots boots.length).length ?_ k (by omega) _ rfl
    rintro i s hi rfl
    by_cases h : i < (propM v.2.1 o boots boots.length).length
    · left
      have h1 : (decide ((i : Int) < ((propM v.2.1 o boots boots.length).length : Int))) = true := decide_eq_true (by omega)
      obtain ⟨j, hj, hj0, hm⟩ := propM_mem v.2.1 o boots boots.length _ (List.getElem_mem h)
      have hg : (propM v.2.1 o boots boots.length).getD i ((0:Int), (0:Int), false, ()) = nextM v.2.1 o (boots.getD j 0) j := by rw [getD_lt h, hm]
      have h2 : (decide ((j : Int) < (boots.length : Int))) = true := decide_eq_true (by omega)
      refine ⟨(o, boots, v, (num, propM v.2.1 o boots boots.length, ()), ((i + 1 : Nat) : Int), ()), ?_, h, rfl⟩
      simp only [bodegalaw10_ViewKeeps_L1, h1, z0, Bool.and_self, cond_true, Int.toNat_natCast, hg, find_eq k v _ hk hl, Option.bind_some, nx (show i < 2000 by omega)]
      have e1 : (nextM v.2.1 o (boots.getD j 0) j).1 = (j : Int) := rfl
      have e2 : (nextM v.2.1 o (boots.getD j 0) j).2.1 = boots.getD j 0 := rfl
      have e3 : (nextM v.2.1 o (boots.getD j 0) j).2.2.1 = (bif (bif (findM v.2.1 (j : Int)).2.1 then decide ((findM v.2.1 (j : Int)).1.2.1 = boots.getD j 0) else false) then (bif (findM v.2.1 (j : Int)).1.2.2.1 then true else o) else false) := rfl
      rw [e1, e2, e3]
      simp only [z0, h2, Bool.and_self, Int.toNat_natCast, decide_true, Bool.not_true, cond_true, cond_false]
      generalize (findM v.2.1 (j : Int)).2.1 = b1
      generalize (findM v.2.1 (j : Int)).1.2.2.1 = b2
      by_cases hc : (findM v.2.1 (j : Int)).1.2.1 = boots.getD j 0
      · cases b1 <;> cases b2 <;> cases o <;> simp [hc]
      · cases b1 <;> cases b2 <;> cases o <;> simp
    · right
      have : i = (propM v.2.1 o boots boots.length).length := by omega
      subst this
      exact ⟨_, by simp [bodegalaw10_ViewKeeps_L1], rfl⟩
  obtain ⟨r, h1, rfl⟩ := L
  exact h1

theorem keeps_true (k : Nat) (hk : 2000 ≤ k) (r : TRaw) (o : Bool) (boots : List Int) : bodegalaw10_ViewKeeps k r o boots = some (true, ()) := by
  unfold bodegalaw10_ViewKeeps
  by_cases c1 : (8:Int) < (r.2.2.2.2.2.1.length : Int)
  · simp [c1]
  by_cases c2 : (8:Int) < (boots.length : Int)
  · simp [c2]
  simp only [c1, c2, decide_false, cond_false]
  obtain ⟨v, hv, hvl⟩ := of_ex k r (by omega) (by omega)
  rw [hv]
  simp only [Option.bind_some]
  rw [prop_eq k v o boots (by omega) (by omega) (by omega) (by omega), awake_eq k (by omega)]
  simp only [Option.bind_some, cond_true]
  by_cases h : (propV v o boots).2.1 = 0
  · obtain ⟨e, g, hmaj⟩ := prop_good h
    have hlen := propM_len v.2.1 o boots boots.length
    have gv : Good v (boots.length : Int) := by
      unfold propV at h
      split at h
      · rename_i h1; exact absurd h h1
      · rename_i h1; exact (vv_zero _ _).1 (by simpa using h1)
    have hnum := gv.num
    have hw : IntKind.i64.wrap (v.1 + 1) = v.1 + 1 := wrap_i64 (by omega) (by omega)
    rw [e] at g ⊢
    rw [valid_eq k _ _ (by simp only; omega) (by simp only; omega), (vv_zero _ _).2 g, hw, wrap_i64 (x := 2 * ((propM v.2.1 o boots boots.length).length : Int)) (by omega) (by omega)]
    have hm : ¬ 2 * ((propM v.2.1 o boots boots.length).length : Int) ≤ (boots.length : Int) := by omega
    simp only [h, decide_true, Bool.not_true, cond_false, Option.bind_some, hm, decide_false, Bool.not_false, cond_true]
    rw [keeps_L k o boots v _ (by omega) (by omega) (by omega) (by omega)]
    rfl
  · rw [prop_fail h]
    simp [h]

/-! ### Members -/
theorem key_eq (k : Nat) (n : Int) (t : Bool) : word_Key k n t = bodegaref1_Key k n t := by
  unfold word_Key bodegaref1_Key word_within
  simp only [Option.bind_some]
  by_cases h0 : 0 ≤ n
  · by_cases h1 : n ≤ 15
    · have h2 : ¬ n < 0 := by omega
      have h3 : ¬ 16 ≤ n := by omega
      have w1 : IntKind.u64.wrap n = n := wrap_u64 (by omega) (by omega)
      have w2 : IntKind.i64.wrap (2 * n) = n * 2 := by rw [wrap_i64 (by omega) (by omega)]; omega
      simp [h0, h1, h2, h3, w1, w2]
    · have h2 : ¬ n < 0 := by omega
      have h3 : 16 ≤ n := by omega
      simp [h0, h1, h2, h3]
  · have h2 : n < 0 := by omega
    simp [h0, h2]

theorem clone_eq (k : Nat) (xs : List TMember) (h : xs.length ≤ 1000) : slices_Clone k xs = some (xs, ()) := by
  unfold slices_Clone
  have h1 : decide (([] : List TMember).length + xs.length < 1073741824) = true := decide_eq_true (by simp; omega)
  simp only [h1, cond_true, List.nil_append]
  cases xs with
  | nil => simp
  | cons x xs => simp

theorem clone2_eq (k : Nat) (xs : List Int) (h : xs.length ≤ 1000) : slices_Clone_2 k xs = some (xs, ()) := by
  unfold slices_Clone_2
  have h1 : decide (([] : List Int).length + xs.length < 1073741824) = true := decide_eq_true (by simp; omega)
  simp only [h1, cond_true, List.nil_append]
  cases xs with
  | nil => simp
  | cons x xs => simp

theorem address_eq (k : Nat) (v : TView) (m : TMember) (t : Bool) (x : TVerb) (h : x.2.2.2.2.2.2.1.length ≤ 1000) : view_Address k v m t x = bodegaref9_Address k v m t x := by
  unfold view_Address bodegaref9_Address
  rw [key_eq, clone2_eq k _ h]
  rfl

theorem raddress_ex (k : Nat) (v : TView) (m : TMember) (t : Bool) (x : TVerb) : ∃ y, bodegaref9_Address k v m t x = some (y, ()) ∧ y.2.2.2.2.2.2.1 = x.2.2.2.2.2.2.1 := by
  unfold bodegaref9_Address
  obtain ⟨z, hz⟩ : ∃ z, bodegaref1_Key k v.1 t = some z := by
    unfold bodegaref1_Key
    cases (bif decide (v.1 < 0) then true else decide (16 ≤ v.1)) with
    | true => exact ⟨_, rfl⟩
    | false => cases t <;> exact ⟨_, rfl⟩
  rw [hz]
  exact ⟨_, rfl, rfl⟩

theorem words_refl (k : Nat) (a : List Int) (hk : a.length < k) (hl : a.length ≤ 1000) : bodegaref1_SameWords k a a = some (true, ()) := by
  have L : ∃ r, bodegaref1_SameWords_L1_it k a a 0 = some r ∧ r = Sum.inr () := by
    refine iterO_inv (fun i s => s = (a, a, (i : Int), ())) (fun r => r = Sum.inr ()) a.length ?_ k hk _ rfl
    rintro i s hi rfl
    by_cases h : i < a.length
    · left
      have h1 : (decide ((i : Int) < (a.length : Int))) = true := decide_eq_true (by omega)
      exact ⟨(a, a, ((i + 1 : Nat) : Int), ()), by simp only [bodegaref1_SameWords_L1, h1, z0, Bool.and_self, cond_true, decide_true, Bool.not_true, cond_false, nx (show i < 2000 by omega)], h, rfl⟩
    · right
      have : i = a.length := by omega
      subst this
      exact ⟨_, by simp [bodegaref1_SameWords_L1], rfl⟩
  obtain ⟨r, h1, rfl⟩ := L
  unfold bodegaref1_SameWords
  rw [h1]
  simp

theorem verb_refl (k : Nat) (a : TVerb) (hk : a.2.2.2.2.2.2.1.length < k) (hl : a.2.2.2.2.2.2.1.length ≤ 1000) : bodegaref4_Same k a a = some (true, ()) := by
  unfold bodegaref4_Same
  simp only [decide_true, Bool.not_true, cond_false, cond_true, words_refl k _ hk hl, Option.bind_some]
  cases decide (a.1 = 1) <;> cases decide (a.1 = 2) <;> cases decide (a.1 = 3) <;> cases decide (a.1 = 4) <;> rfl

theorem lsame_eq (k : Nat) (a b : List TMember) (hk : a.length < k) (hl : a.length ≤ 1000) : bodegalaw10_same k a b = some (decide (a = b), ()) := by
  unfold bodegalaw10_same
  rw [same_eq k _ _ hk hl]
  simp

theorem vfull_eq (k : Nat) (v : TView) (hk : v.2.1.length < k) (hl : v.2.1.length ≤ 1000) : view_Full k v = some (v.2.1.filter (·.2.2.1), ()) := by
  have L : ∃ o, view_Full_L1_it k [] v.2.1 (v.2.1.length : Int) 0 = some o ∧ o = (v.2.1.filter (·.2.2.1), ()) := by
    refine iterO_inv (fun i s => s = ((v.2.1.take i).filter (·.2.2.1), v.2.1, (v.2.1.length : Int), (i : Int), ())) (fun o => o = (v.2.1.filter (·.2.2.1), ())) v.2.1.length ?_ k hk _ (by simp)
    rintro i s hi rfl
    by_cases h : i < v.2.1.length
    · left
      have h1 : (decide ((i : Int) < (v.2.1.length : Int))) = true := by simp; omega
      have hlen : ((v.2.1.take i).filter (·.2.2.1)).length ≤ 1000 := Nat.le_trans (List.length_filter_le _ _) (by simp; omega)
      have h2 : (decide (((v.2.1.take i).filter (·.2.2.1)).length + [v.2.1.getD i ((0:Int), (0:Int), false, ())].length < 1073741824)) = true := by simp; omega
      simp only [view_Full_L1, nx (show i < 2000 by omega), Int.toNat_natCast, z0, Bool.and_self, h1, h2, cond_true]
      have ht : v.2.1.take (i + 1) = v.2.1.take i ++ [v.2.1.getD i ((0:Int), (0:Int), false, ())] := by rw [getD_lt h, List.take_succ_eq_append_getElem h]
      rw [ht, List.filter_append]
      cases hb : (v.2.1.getD i ((0:Int), (0:Int), false, ())).2.2.1 with
      | true => exact ⟨_, rfl, h, by simp [hb, -List.getD_eq_getElem?_getD]⟩
      | false => exact ⟨_, rfl, h, by simp [hb, -List.getD_eq_getElem?_getD]⟩
    · right
      have : i = v.2.1.length := by omega
      subst this
      exact ⟨((v.2.1.take v.2.1.length).filter (·.2.2.1), ()), by simp [view_Full_L1], by simp⟩
  obtain ⟨o, h1, rfl⟩ := L
  unfold view_Full
  rw [h1]
  rfl

theorem backups_eq (k : Nat) (v : TView) (hl : v.2.1.length ≤ 1000) : view_Backups k v = some (v.2.1.drop 1, ()) := by
  unfold view_Backups
  cases h : v.2.1 with
  | nil => simp
  | cons m ms =>
    have h1 : ¬ (((m :: ms).length : Int) = 0) := by rw [List.length_cons]; omega
    have h2 : (decide ((0:Int) ≤ 1) && decide ((1:Int) ≤ ((m :: ms).length : Int)) && decide (((m :: ms).length : Int) ≤ ((m :: ms).length : Int))) = true := by
      simp only [Bool.and_eq_true, decide_eq_true_eq]
      rw [List.length_cons]
      omega
    simp only [h1, h2, decide_false, cond_false, cond_true, Int.toNat_natCast, List.take_length]
    rw [clone_eq k _ (by rw [h] at hl; simp at hl ⊢; omega)]
    rfl

theorem members_step (k : Nat) (hk : 2000 ≤ k) (node : Int) (t : Bool) (v : TView) (r : TRaw) (m : TMember) (x : TVerb) (i : Nat) (hi : i < 2) (hv : v.2.1.length ≤ 12) (hr : r.2.2.2.2.2.1.length ≤ 8) (hx : x.2.2.2.2.2.2.1.length ≤ 50) :
    ∃ node' v', bodegalaw10_ViewMembers_L1 k node t v r m x (i : Int) = some (.inl (node', t, v', r, m, x, ((i + 1 : Nat) : Int), ())) ∧ v'.2.1.length ≤ 12 := by
  obtain ⟨w, hw, hwl⟩ := of_ex k r (by omega) (by omega)
  obtain ⟨y, hy, hyw⟩ := raddress_ex k v m t x
  have hyl : y.2.2.2.2.2.2.1.length ≤ 50 := by rw [hyw]; exact hx
  have h1 : (decide ((i : Int) < 2)) = true := decide_eq_true (by omega)
  have hadr := (address_eq k v m t x (by omega)).trans hy
  have hsame := verb_refl k y (by omega) (by omega)
  have hfil : (v.2.1.filter (·.2.2.1)).length ≤ 12 := Nat.le_trans (List.length_filter_le _ _) hv
  have hfs := lsame_eq k (v.2.1.filter (·.2.2.1)) (v.2.1.filter (·.2.2.1)) (by omega) (by omega)
  refine ⟨IntKind.i64.wrap (node % 7 - 1), w, ?_, by omega⟩
  unfold bodegalaw10_ViewMembers_L1
  simp only [h1, cond_true, primary_eq, backups_eq k v (by omega), awake_eq k (show 5 < k by omega), vfull_eq k v (by omega) (by omega), full_eq k v (by omega) (by omega), find_eq k v _ (by omega) (by omega), rfind_eq k v _ (by omega) (by omega),
    hadr, hy, hw, pick_pos k node 7 (by omega) (by omega), nx (show i < 2000 by omega), Option.bind_some]
  cases hm : v.2.1 with
  | nil =>
    have hneg : IntKind.i64.wrap (-1) = -1 := wrap_i64 (by omega) (by omega)
    have hs0 : bodegalaw10_same k [] [] = some (true, ()) := by rw [lsame_eq k _ _ (by simp; omega) (by simp)]; rfl
    simp [findM, hneg, hs0, hsame]
  | cons a ts =>
    have hlen : ts.length ≤ 11 := by rw [hm] at hv; simpa using hv
    have e1 : (decide ((0:Int) < (((a :: ts).length : Nat) : Int))) = true := decide_eq_true (by rw [List.length_cons]; omega)
    have e2 : IntKind.i64.wrap ((((a :: ts).length : Nat) : Int) - 1) = (ts.length : Int) := by rw [List.length_cons, wrap_i64 (by omega) (by omega)]; omega
    have e3 : (bif decide ((0:Int) < (ts.length : Int)) then (ts.length : Int) else 0) = (ts.length : Int) := by
      by_cases h0 : (0:Int) < (ts.length : Int)
      · rw [decide_eq_true h0]; rfl
      · rw [decide_eq_false h0, cond_false]; omega
    have hs0 : ∀ l : List TMember, l.length ≤ 12 → bodegalaw10_same k l l = some (true, ()) := fun l hl => by rw [lsame_eq k _ _ (by omega) (by omega)]; simp
    rw [hm] at hfil
    have hs1 := hs0 _ hfil
    have e4 : bodegalaw10_same k ([a] ++ ts) (a :: ts) = some (true, ()) := by
      rw [lsame_eq k _ _ (by simp; omega) (by simp; omega)]; simp
    have e5 : decide ([a].length + ts.length < 1073741824) = true := decide_eq_true (by simp; omega)
    have e6 : (a :: ts).getD 0 ((0:Int), (0:Int), false, ()) = a := rfl
    simp only [e6, List.isEmpty_cons, Bool.not_false, e1, e2, e3, Int.le_refl, decide_true, Bool.and_self, Bool.true_or, cond_true, List.drop_one, List.tail_cons, Option.bind_some, BEq.rfl, Bool.not_true, cond_false, e4, e5]
    simp only [hs1, Option.bind_some, Bool.not_true, cond_false, hsame]

theorem members_true (k : Nat) (hk : 2000 ≤ k) (v : TView) (r : TRaw) (node : Int) (m : TMember) (t : Bool) (x : TVerb) : bodegalaw10_ViewMembers k v r node m t x = some (true, ()) := by
  unfold bodegalaw10_ViewMembers
  by_cases c1 : (12:Int) < (v.2.1.length : Int)
  · simp [c1]
  by_cases c2 : (8:Int) < (r.2.2.2.2.2.1.length : Int)
  · simp [c2]
  by_cases c3 : (50:Int) < (x.2.2.2.2.2.2.1.length : Int)
  · simp [c3]
  simp only [c1, c2, c3, decide_false, cond_false]
  have L : ∃ o, bodegalaw10_ViewMembers_L1_it k node t v r m x 0 = some o ∧ o = Sum.inr () := by
    refine iterO_inv (fun i (s : Int × Bool × TView × TRaw × TMember × TVerb × Int × Unit) => ∃ node' v', s = (node', t, v', r, m, x, (i : Int), ()) ∧ v'.2.1.length ≤ 12) (fun o => o = Sum.inr ()) 2 ?_ k (by omega) _ ⟨node, v, rfl, by omega⟩
    rintro i s hi ⟨node', v', rfl, hv'⟩
    by_cases h : i < 2
    · left
      obtain ⟨node2, v2, h1, h2⟩ := members_step k hk node' t v' r m x i h hv' (by omega) (by omega)
      exact ⟨_, h1, h, node2, v2, rfl, h2⟩
    · right
      have : i = 2 := by omega
      subst this
      exact ⟨_, by simp [bodegalaw10_ViewMembers_L1], rfl⟩
  obtain ⟨o, h1, rfl⟩ := L
  rw [h1]
  rfl

end Go.Proofs.Ytjbnedjlcpdekaa.N
