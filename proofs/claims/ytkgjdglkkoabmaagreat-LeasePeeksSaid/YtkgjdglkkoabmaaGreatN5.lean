import Derived.Test.YtkgjdglkkoabmaaGreatN4

set_option maxRecDepth 1000000
namespace Go.Proofs.YtkgjdglkkoabmaaGreat.N
open Go.VL Go.Proofs

/-! #### bodega/lease.Peek$1 -/
noncomputable def lease_Peek_1_L1 (k : Nat) (t_4 : TPeekOutcome) (out_5 : TPeekOutcome) (t_13 : (List Int)) (t_14 : Int) (t_15 : Int) : Option ((TPeekOutcome × TPeekOutcome × (List Int) × Int × Int × Unit) ⊕ ((TPeekOutcome × TPeekOutcome × Unit))) :=
  bif (decide (t_15 < t_14)) then
    bif (decide ((0:Int) ≤ t_15) && decide (t_15 < (t_13.length : Int))) then
      Option.bind (word_SplitLease k (t_13.getD (t_15.toNat) (0:Int))) fun r1 =>
      bif (decide (out_5.2.1.length + [(r1.1, r1.2.1, ())].length < 1073741824)) then
        some (.inl (t_4, (out_5.1, (out_5.2.1 ++ [(r1.1, r1.2.1, ())]), out_5.2.2), t_13, t_14, (IntKind.i64.wrap (t_15 + (1:Int))), ()))
      else none
    else none
  else
    some (.inr (t_4, out_5, ()))
noncomputable def lease_Peek_1_L1_it (k : Nat) (t_4 : TPeekOutcome) (out_5 : TPeekOutcome) (t_13 : (List Int)) (t_14 : Int) (t_15 : Int) : Option ((TPeekOutcome × TPeekOutcome × Unit)) :=
  iterO (fun s : TPeekOutcome × TPeekOutcome × (List Int) × Int × Int × Unit => lease_Peek_1_L1 k s.1 s.2.1 s.2.2.1 s.2.2.2.1 s.2.2.2.2.1) k (t_4, out_5, t_13, t_14, t_15, ())
noncomputable def lease_Peek_1 (k : Nat) (e_0 : Int) (words_1 : (List Int)) : Option (TPeekOutcome × Unit) :=
  Option.bind (lease_Peek_1_L1_it k ((0:Int), ([] : (List THolding)), ()) (e_0, ([] : (List THolding)), ()) words_1 (words_1.length : Int) (0:Int)) fun o2 =>
  some (o2.2.1, ())
def lease_Peek_1_sig : Sig := ⟨[⟨false, (.int .i64), .s, .s⟩, ⟨false, (.list (.int .u64)), .s, .s⟩], [(y16, q2)]⟩
noncomputable def lease_Peek_1_te (k : Nat) : TE := ⟨lease_Peek_1_sig, fun s => lease_Peek_1 k s.1 s.2.1⟩
noncomputable def lease_Peek_1_C (k : Nat) : Ctx := cx [(55, word_SplitLease_te k)] [] []
noncomputable def lease_Peek_1_code : Code := Tryz.f54.body.getD .skip
theorem lease_Peek_1_tab (k : Nat) : TabOk Tryz.prog (lease_Peek_1_C k) := ⟨tab_cons (word_SplitLease_ok k) (tab_nil), lay_nil⟩
noncomputable def lease_Peek_1_ac (k : Nat) : AC := (.sq .rg (.sq .rg (.sq (.sq .rg (.bk (.lp [(4, .bo y16 q2), (5, .bo y16 q2), (13, .va (.list (.int .u64)) .s), (14, .va (.int .i64) .s), (15, .va (.int .i64) .s)] [(.exit 0, [(4, .bo y16 q2), (5, .bo y16 q2)])] (fun s => lease_Peek_1_L1 k s.1 s.2.1 s.2.2.1 s.2.2.2.1 s.2.2.2.2.1) (.sq .rg (.sq (.cd .nx .nx) (.sq (.bk (.sq .rg (.sq .rg .rg))) .rg)))))) (.sq .rg .nx))))
theorem lease_Peek_1_fix (k : Nat) : acFix (lease_Peek_1_C k) k 35 (lease_Peek_1_ac k) lease_Peek_1_code = lease_Peek_1_ac k := by kernel_rfl
theorem lease_Peek_1_eq (k : Nat) (s : lease_Peek_1_sig.S) : fnEv (lease_Peek_1_C k) k lease_Peek_1_sig Tryz.f54 lease_Peek_1_code (lease_Peek_1_ac k) s = (lease_Peek_1_te k).F s := by kernel_rfl
theorem lease_Peek_1_ok (k : Nat) : CallOk Tryz.prog 54 (lease_Peek_1_te k) :=
  fn_ok (C := lease_Peek_1_C k) (code := lease_Peek_1_code) (g := lease_Peek_1_sig) (k := k) (Fn := (lease_Peek_1_te k).F) mixed (tysOk _ _ _) (eqsOk _ _ _) (lease_Peek_1_tab k) Tryz.func54 (by kernel_rfl) (by kernel_rfl) (of_decide_eq_true (by kernel_rfl)) (by kernel_rfl) (by kernel_rfl) (by kernel_rfl)
    (fun s q h => ⟨lease_Peek_1_ac k, ok_of_fix _ _ (lease_Peek_1_fix k), (lease_Peek_1_eq k s).trans h⟩)

/-! #### bodega/lease.readOnce(bodega/lease.PeekOutcome) -/
noncomputable def lease_readOnce_3_1 (k : Nat) (v_0 : TView) (t_1 : Int) (n_2 : Int) (got_3 : (List (List TClocksOutcome))) : Option ((List TVerb) × TPeekOutcome × Bool × Unit) :=
  Option.bind (view_Primary k v_0) fun r1 =>
  Option.bind (view_Address k v_0 r1.1 true ((1:Int), (0:Int), t_1, n_2, (0:Int), (0:Int), ([] : (List Int)), (0:Int), (0:Int), ())) fun r2 =>
  Option.bind (lease_talkOnce k [r2.1] got_3) fun r3 =>
  bif (!r3.2.2.2.1) then
    some (r3.1, ((0:Int), ([] : (List THolding)), ()), false, ())
  else
    bif (!(decide (r3.2.2.1 = (0:Int)))) then
      Option.bind (lease_Peek_1 k r3.2.2.1 ([] : (List Int))) fun r4 =>
      some (([] : (List TVerb)), r4.1, true, ())
    else
      bif (decide ((0:Int) ≤ (0:Int)) && decide ((0:Int) < (r3.2.1.length : Int))) then
        Option.bind (lease_Peek_1 k (0:Int) (r3.2.1.getD 0 ((0:Int), ([] : (List Int)), ())).2.1) fun r5 =>
        some (([] : (List TVerb)), r5.1, true, ())
      else none
def lease_readOnce_3_sig : Sig := ⟨[⟨false, y3, .s, .s⟩, ⟨false, (.int .i64), .s, .s⟩, ⟨false, (.int .i64), .s, .s⟩, ⟨false, (.list (.list y4)), .s, .s⟩, ⟨false, .fn, .s, .s⟩], [((.list y2), .s), (y16, .s), (.bool, .s)]⟩
noncomputable def lease_readOnce_3_te (k : Nat) : TE := ⟨lease_readOnce_3_sig, fun s => match s.2.2.2.2.1 with | some n => (match Nat.beq n 54 with | true => lease_readOnce_3_1 k s.1 s.2.1 s.2.2.1 s.2.2.2.1 | false => none) | none => none⟩
noncomputable def lease_readOnce_3_C (k : Nat) : Ctx := cx [(30, view_Address_te k), (31, lease_talkOnce_te k), (54, lease_Peek_1_te k), (83, view_Primary_te k)] [] []
noncomputable def lease_readOnce_3_code : Code := Tryz.f53.body.getD .skip
theorem lease_readOnce_3_tab (k : Nat) : TabOk Tryz.prog (lease_readOnce_3_C k) := ⟨tab_cons (view_Address_ok k) (tab_cons (lease_talkOnce_ok k) (tab_cons (lease_Peek_1_ok k) (tab_cons (view_Primary_ok k) (tab_nil)))), lay_nil⟩
noncomputable def lease_readOnce_3_1_ac (_k : Nat) : AC := (.sq .rg (.sq .rg (.sq .rg (.sq .rg (.sq (.bk (.sq .rg (.cd (.sq .rg .nx) (.sq .rg (.cd (.sq .rg .nx) .nx))))) (.sq .rg .nx))))))
theorem lease_readOnce_3_1_fix (k : Nat) : acFix (lease_readOnce_3_C k) k 55 (lease_readOnce_3_1_ac k) lease_readOnce_3_code = lease_readOnce_3_1_ac k := by kernel_rfl
theorem lease_readOnce_3_1_eq (k : Nat) (x0 : TView) (x1 : Int) (x2 : Int) (x3 : (List (List TClocksOutcome))) : fnEv (lease_readOnce_3_C k) k lease_readOnce_3_sig Tryz.f53 lease_readOnce_3_code (lease_readOnce_3_1_ac k) (x0, x1, x2, x3, (some 54), ()) = lease_readOnce_3_1 k x0 x1 x2 x3 := by kernel_rfl
theorem lease_readOnce_3_ok (k : Nat) : CallOk Tryz.prog 53 (lease_readOnce_3_te k) :=
  fn_ok (C := lease_readOnce_3_C k) (code := lease_readOnce_3_code) (g := lease_readOnce_3_sig) (k := k) (Fn := (lease_readOnce_3_te k).F) mixed (tysOk _ _ _) (eqsOk _ _ _) (lease_readOnce_3_tab k) Tryz.func53 (by kernel_rfl) (by kernel_rfl) (of_decide_eq_true (by kernel_rfl)) (by kernel_rfl) (by kernel_rfl) (by kernel_rfl)
    (by
      rintro ⟨x0, x1, x2, x3, x4, u⟩ q h
      cases u
      cases x4 with
      | none => cases h
      | some n =>
        by_cases hn : n = 54
        · subst hn; exact ⟨lease_readOnce_3_1_ac k, ok_of_fix _ _ (lease_readOnce_3_1_fix k), (lease_readOnce_3_1_eq k x0 x1 x2 x3).trans h⟩
        have hb54 : Nat.beq n 54 = false := by cases hq : Nat.beq n 54 with | false => rfl | true => exact absurd (Nat.eq_of_beq_eq_true hq) hn
        simp [lease_readOnce_3_te, hb54] at h)

/-! #### bodega/lease.Peek -/
noncomputable def lease_Peek (k : Nat) (j_0 : (TView × Unit)) (got_1 : (List (List TClocksOutcome))) : Option ((List TVerb) × TPeekOutcome × Bool × Unit) :=
  Option.bind (view_Valid k j_0.1 (5:Int)) fun r1 =>
  bif (!(decide (r1.1 = (0:Int)))) then
    some (([] : (List TVerb)), (r1.1, ([] : (List THolding)), ()), true, ())
  else
    Option.bind (layout_Lease k (0:Int)) fun r2 =>
    Option.bind (lease_readOnce_3_1 k j_0.1 r2.1 (6:Int) got_1) fun r3 =>
    some (r3.1, r3.2.1, r3.2.2.1, ())
def lease_Peek_sig : Sig := ⟨[⟨false, (.pair y3 .unit), .s, .s⟩, ⟨false, (.list (.list y4)), .s, .s⟩], [((.list y2), .s), (y16, .s), (.bool, .s)]⟩
noncomputable def lease_Peek_te (k : Nat) : TE := ⟨lease_Peek_sig, fun s => lease_Peek k s.1 s.2.1⟩
noncomputable def lease_Peek_C (k : Nat) : Ctx := cx [(28, view_Valid_te k), (29, layout_Lease_te k), (53, lease_readOnce_3_te k)] [] []
noncomputable def lease_Peek_code : Code := Tryz.f21.body.getD .skip
theorem lease_Peek_tab (k : Nat) : TabOk Tryz.prog (lease_Peek_C k) := ⟨tab_cons (view_Valid_ok k) (tab_cons (layout_Lease_ok k) (tab_cons (lease_readOnce_3_ok k) (tab_nil))), lay_nil⟩
noncomputable def lease_Peek_ac (_k : Nat) : AC := (.sq .rg (.sq (.sq .rg (.sq .rg (.cd (.sq .rg .nx) .nx))) (.sq .rg .nx)))
theorem lease_Peek_fix (k : Nat) : acFix (lease_Peek_C k) k 23 (lease_Peek_ac k) lease_Peek_code = lease_Peek_ac k := by kernel_rfl
theorem lease_Peek_eq (k : Nat) (s : lease_Peek_sig.S) : fnEv (lease_Peek_C k) k lease_Peek_sig Tryz.f21 lease_Peek_code (lease_Peek_ac k) s = (lease_Peek_te k).F s := by kernel_rfl
theorem lease_Peek_ok (k : Nat) : CallOk Tryz.prog 21 (lease_Peek_te k) :=
  fn_ok (C := lease_Peek_C k) (code := lease_Peek_code) (g := lease_Peek_sig) (k := k) (Fn := (lease_Peek_te k).F) mixed (tysOk _ _ _) (eqsOk _ _ _) (lease_Peek_tab k) Tryz.func21 (by kernel_rfl) (by kernel_rfl) (of_decide_eq_true (by kernel_rfl)) (by kernel_rfl) (by kernel_rfl) (by kernel_rfl)
    (fun s q h => ⟨lease_Peek_ac k, ok_of_fix _ _ (lease_Peek_fix k), (lease_Peek_eq k s).trans h⟩)

/-! #### bodega/bodegaref1.SplitLease -/
noncomputable def bodegaref1_SplitLease (k : Nat) (l_0 : Int) : Option (Int × Int × Bool × Unit) :=
  Option.bind (bodegaref1_Inc k (IntKind.i64.wrap (ishr .u64 l_0 (32:Int)))) fun r1 =>
  bif (!r1.1) then
    some ((0:Int), (0:Int), false, ())
  else
    some ((IntKind.i64.wrap (ishr .u64 l_0 (32:Int))), (IntKind.i64.wrap (iand .u64 l_0 (4294967295:Int))), true, ())
def bodegaref1_SplitLease_sig : Sig := ⟨[⟨false, (.int .u64), .s, .s⟩], [((.int .i64), .s), ((.int .i64), .s), (.bool, .s)]⟩
noncomputable def bodegaref1_SplitLease_te (k : Nat) : TE := ⟨bodegaref1_SplitLease_sig, fun s => bodegaref1_SplitLease k s.1⟩
noncomputable def bodegaref1_SplitLease_C (k : Nat) : Ctx := cx [(69, bodegaref1_Inc_te k)] [] []
noncomputable def bodegaref1_SplitLease_code : Code := Tryz.f56.body.getD .skip
theorem bodegaref1_SplitLease_tab (k : Nat) : TabOk Tryz.prog (bodegaref1_SplitLease_C k) := ⟨tab_cons (bodegaref1_Inc_ok k) (tab_nil), lay_nil⟩
noncomputable def bodegaref1_SplitLease_ac (_k : Nat) : AC := (.sq .rg (.sq .rg (.sq (.sq .rg (.cd (.sq .rg .nx) .nx)) (.sq .rg .nx))))
theorem bodegaref1_SplitLease_fix (k : Nat) : acFix (bodegaref1_SplitLease_C k) k 16 (bodegaref1_SplitLease_ac k) bodegaref1_SplitLease_code = bodegaref1_SplitLease_ac k := by kernel_rfl
theorem bodegaref1_SplitLease_eq (k : Nat) (s : bodegaref1_SplitLease_sig.S) : fnEv (bodegaref1_SplitLease_C k) k bodegaref1_SplitLease_sig Tryz.f56 bodegaref1_SplitLease_code (bodegaref1_SplitLease_ac k) s = (bodegaref1_SplitLease_te k).F s := by kernel_rfl
theorem bodegaref1_SplitLease_ok (k : Nat) : CallOk Tryz.prog 56 (bodegaref1_SplitLease_te k) :=
  fn_ok (C := bodegaref1_SplitLease_C k) (code := bodegaref1_SplitLease_code) (g := bodegaref1_SplitLease_sig) (k := k) (Fn := (bodegaref1_SplitLease_te k).F) mixed (tysOk _ _ _) (eqsOk _ _ _) (bodegaref1_SplitLease_tab k) Tryz.func56 (by kernel_rfl) (by kernel_rfl) (of_decide_eq_true (by kernel_rfl)) (by kernel_rfl) (by kernel_rfl) (by kernel_rfl)
    (fun s q h => ⟨bodegaref1_SplitLease_ac k, ok_of_fix _ _ (bodegaref1_SplitLease_fix k), (bodegaref1_SplitLease_eq k s).trans h⟩)

/-! #### bodega/bodegaref9.Peek -/
noncomputable def bodegaref9_Peek_L1 (k : Nat) (d_10 : (List TClocksOutcome)) (h_14 : (List THolding)) (c_15 : Int) : Option (((List TClocksOutcome) × (List THolding) × Int × Unit) ⊕ (((List THolding) × Unit))) :=
  bif (decide (c_15 < (6:Int))) then
    bif (decide ((0:Int) ≤ (0:Int)) && decide ((0:Int) < (d_10.length : Int))) then
      bif (decide ((0:Int) ≤ c_15) && decide (c_15 < ((d_10.getD 0 ((0:Int), ([] : (List Int)), ())).2.1.length : Int))) then
        Option.bind (bodegaref1_SplitLease k ((d_10.getD 0 ((0:Int), ([] : (List Int)), ())).2.1.getD (c_15.toNat) (0:Int))) fun r6 =>
        bif (decide (h_14.length + [(r6.1, r6.2.1, ())].length < 1073741824)) then
          some (.inl (d_10, (h_14 ++ [(r6.1, r6.2.1, ())]), (IntKind.i64.wrap (c_15 + (1:Int))), ()))
        else none
      else none
    else none
  else
    some (.inr (h_14, ()))
noncomputable def bodegaref9_Peek_L1_it (k : Nat) (d_10 : (List TClocksOutcome)) (h_14 : (List THolding)) (c_15 : Int) : Option (((List THolding) × Unit)) :=
  iterO (fun s : (List TClocksOutcome) × (List THolding) × Int × Unit => bodegaref9_Peek_L1 k s.1 s.2.1 s.2.2.1) k (d_10, h_14, c_15, ())
noncomputable def bodegaref9_Peek (k : Nat) (v_0 : TView) (got_1 : (List (List TClocksOutcome))) : Option ((List TVerb) × Int × (List THolding) × Bool × Unit) :=
  Option.bind (bodegaref9_ValidView k v_0 (5:Int)) fun r1 =>
  bif (!(decide (r1.1 = (0:Int)))) then
    some (([] : (List TVerb)), r1.1, ([] : (List THolding)), true, ())
  else
    bif (decide ((0:Int) ≤ (0:Int)) && decide ((0:Int) < (v_0.2.1.length : Int))) then
      Option.bind (bodegaref1_LeaseAt k (0:Int)) fun r2 =>
      Option.bind (bodegaref9_get k v_0 (v_0.2.1.getD 0 ((0:Int), (0:Int), false, ())) r2.1 (6:Int)) fun r3 =>
      Option.bind (bodegaref9_single k [r3.1] got_1) fun r4 =>
      bif r4.2.1 then
        some ([r3.1], (0:Int), ([] : (List THolding)), false, ())
      else
        bif (!r4.2.2.1) then
          some (([] : (List TVerb)), (6:Int), ([] : (List THolding)), true, ())
        else
          Option.bind (bodegaref4_First k r4.1) fun r5 =>
          bif (!(decide (r5.1 = (0:Int)))) then
            some (([] : (List TVerb)), r5.1, ([] : (List THolding)), true, ())
          else
            Option.bind (bodegaref9_Peek_L1_it k r4.1 ([] : (List THolding)) (0:Int)) fun o7 =>
            some (([] : (List TVerb)), (0:Int), o7.1, true, ())
    else none
def bodegaref9_Peek_sig : Sig := ⟨[⟨false, y3, .s, .s⟩, ⟨false, (.list (.list y4)), .s, .s⟩], [((.list y2), .s), ((.int .i64), .s), ((.list y7), (.o .s)), (.bool, .s)]⟩
noncomputable def bodegaref9_Peek_te (k : Nat) : TE := ⟨bodegaref9_Peek_sig, fun s => bodegaref9_Peek k s.1 s.2.1⟩
noncomputable def bodegaref9_Peek_C (k : Nat) : Ctx := cx [(34, bodegaref9_ValidView_te k), (36, bodegaref1_LeaseAt_te k), (37, bodegaref9_single_te k), (38, bodegaref4_First_te k), (49, bodegaref9_get_te k), (56, bodegaref1_SplitLease_te k)] [] []
noncomputable def bodegaref9_Peek_code : Code := Tryz.f22.body.getD .skip
theorem bodegaref9_Peek_tab (k : Nat) : TabOk Tryz.prog (bodegaref9_Peek_C k) := ⟨tab_cons (bodegaref9_ValidView_ok k) (tab_cons (bodegaref1_LeaseAt_ok k) (tab_cons (bodegaref9_single_ok k) (tab_cons (bodegaref4_First_ok k) (tab_cons (bodegaref9_get_ok k) (tab_cons (bodegaref1_SplitLease_ok k) (tab_nil)))))), lay_nil⟩
noncomputable def bodegaref9_Peek_ac (k : Nat) : AC := (.sq .rg (.sq (.sq .rg (.sq .rg (.cd (.sq .rg .nx) .nx))) (.sq .rg (.sq .rg (.sq (.bk (.sq .rg (.cd (.sq .rg .nx) (.sq .rg (.cd (.sq .rg .nx) .nx))))) (.sq (.sq .rg (.sq .rg (.cd (.sq .rg .nx) .nx))) (.sq .rg (.sq (.sq .rg (.bk (.lp [(10, .va (.list y4) .s), (14, .va (.list y7) (.o .s)), (15, .va (.int .i64) .s)] [(.exit 1, [(14, .va (.list y7) (.o .s))])] (fun s => bodegaref9_Peek_L1 k s.1 s.2.1 s.2.2.1) (.sq (.sq .rg (.cd .nx .nx)) (.sq (.bk (.sq .rg .rg)) .rg))))) (.sq .rg .nx)))))))))
theorem bodegaref9_Peek_fix (k : Nat) : acFix (bodegaref9_Peek_C k) k 73 (bodegaref9_Peek_ac k) bodegaref9_Peek_code = bodegaref9_Peek_ac k := by kernel_rfl
theorem bodegaref9_Peek_eq (k : Nat) (s : bodegaref9_Peek_sig.S) : fnEv (bodegaref9_Peek_C k) k bodegaref9_Peek_sig Tryz.f22 bodegaref9_Peek_code (bodegaref9_Peek_ac k) s = (bodegaref9_Peek_te k).F s := by kernel_rfl
theorem bodegaref9_Peek_ok (k : Nat) : CallOk Tryz.prog 22 (bodegaref9_Peek_te k) :=
  fn_ok (C := bodegaref9_Peek_C k) (code := bodegaref9_Peek_code) (g := bodegaref9_Peek_sig) (k := k) (Fn := (bodegaref9_Peek_te k).F) mixed (tysOk _ _ _) (eqsOk _ _ _) (bodegaref9_Peek_tab k) Tryz.func22 (by kernel_rfl) (by kernel_rfl) (of_decide_eq_true (by kernel_rfl)) (by kernel_rfl) (by kernel_rfl) (by kernel_rfl)
    (fun s q h => ⟨bodegaref9_Peek_ac k, ok_of_fix _ _ (bodegaref9_Peek_fix k), (bodegaref9_Peek_eq k s).trans h⟩)

/-! #### bodega/bodegalaw15.sameLeases -/
noncomputable def bodegalaw15_sameLeases_L1 (_k : Nat) (a_0 : (List THolding)) (b_1 : (List THolding)) (i_5 : Int) : Option (((List THolding) × (List THolding) × Int × Unit) ⊕ ((Bool × Unit) ⊕ (Unit))) :=
  bif (decide (i_5 < (a_0.length : Int))) then
    bif (decide ((0:Int) ≤ i_5) && decide (i_5 < (a_0.length : Int))) then
      bif (decide ((0:Int) ≤ i_5) && decide (i_5 < (b_1.length : Int))) then
        bif ((decide ((0:Int) ≤ i_5) && decide (i_5 < (a_0.length : Int))) || (!(!(!(decide ((a_0.getD (i_5.toNat) ((0:Int), (0:Int), ())).1 = (b_1.getD (i_5.toNat) ((0:Int), (0:Int), ())).1)))))) then
          bif ((decide ((0:Int) ≤ i_5) && decide (i_5 < (b_1.length : Int))) || (!(!(!(decide ((a_0.getD (i_5.toNat) ((0:Int), (0:Int), ())).1 = (b_1.getD (i_5.toNat) ((0:Int), (0:Int), ())).1)))))) then
            bif (bif (!(decide ((a_0.getD (i_5.toNat) ((0:Int), (0:Int), ())).1 = (b_1.getD (i_5.toNat) ((0:Int), (0:Int), ())).1))) then true else (!(decide ((a_0.getD (i_5.toNat) ((0:Int), (0:Int), ())).2.1 = (b_1.getD (i_5.toNat) ((0:Int), (0:Int), ())).2.1)))) then
              some (.inr (.inl (false, ())))
            else
              some (.inl (a_0, b_1, (IntKind.i64.wrap (i_5 + (1:Int))), ()))
          else none
        else none
      else none
    else none
  else
    some (.inr (.inr ()))
noncomputable def bodegalaw15_sameLeases_L1_it (k : Nat) (a_0 : (List THolding)) (b_1 : (List THolding)) (i_5 : Int) : Option ((Bool × Unit) ⊕ (Unit)) :=
  iterO (fun s : (List THolding) × (List THolding) × Int × Unit => bodegalaw15_sameLeases_L1 k s.1 s.2.1 s.2.2.1) k (a_0, b_1, i_5, ())
noncomputable def bodegalaw15_sameLeases (k : Nat) (a_0 : (List THolding)) (b_1 : (List THolding)) : Option (Bool × Unit) :=
  bif (!(decide ((a_0.length : Int) = (b_1.length : Int)))) then
    some (false, ())
  else
    Option.bind (bodegalaw15_sameLeases_L1_it k a_0 b_1 (0:Int)) fun o1 =>
    Sum.elim (fun o2 =>
      some (o2.1, ())) (fun _o3 =>
      some (true, ())) o1
def bodegalaw15_sameLeases_sig : Sig := ⟨[⟨false, (.list y7), .s, .s⟩, ⟨false, (.list y7), .s, .s⟩], [(.bool, .s)]⟩
noncomputable def bodegalaw15_sameLeases_te (k : Nat) : TE := ⟨bodegalaw15_sameLeases_sig, fun s => bodegalaw15_sameLeases k s.1 s.2.1⟩
noncomputable def bodegalaw15_sameLeases_C (_k : Nat) : Ctx := cx [] [] []
noncomputable def bodegalaw15_sameLeases_code : Code := Tryz.f23.body.getD .skip
theorem bodegalaw15_sameLeases_tab (k : Nat) : TabOk Tryz.prog (bodegalaw15_sameLeases_C k) := ⟨tab_nil, lay_nil⟩
noncomputable def bodegalaw15_sameLeases_ac (k : Nat) : AC := (.sq .rg (.sq (.sq .rg (.cd (.sq .rg .nx) .nx)) (.sq (.sq .rg (.bk (.lp [(0, .va (.list y7) .s), (1, .va (.list y7) .s), (5, .va (.int .i64) .s)] [(.ret, [(4, .va .bool .s)]), (.exit 0, [])] (fun s => bodegalaw15_sameLeases_L1 k s.1 s.2.1 s.2.2.1) (.sq (.sq .rg (.cd .nx .nx)) (.sq (.bk (.sq .rg (.cd (.sq .rg .nx) .nx))) .rg))))) (.sq .rg .nx))))
theorem bodegalaw15_sameLeases_fix (k : Nat) : acFix (bodegalaw15_sameLeases_C k) k 41 (bodegalaw15_sameLeases_ac k) bodegalaw15_sameLeases_code = bodegalaw15_sameLeases_ac k := by kernel_rfl
theorem bodegalaw15_sameLeases_eq (k : Nat) (s : bodegalaw15_sameLeases_sig.S) : fnEv (bodegalaw15_sameLeases_C k) k bodegalaw15_sameLeases_sig Tryz.f23 bodegalaw15_sameLeases_code (bodegalaw15_sameLeases_ac k) s = (bodegalaw15_sameLeases_te k).F s := by kernel_rfl
theorem bodegalaw15_sameLeases_ok (k : Nat) : CallOk Tryz.prog 23 (bodegalaw15_sameLeases_te k) :=
  fn_ok (C := bodegalaw15_sameLeases_C k) (code := bodegalaw15_sameLeases_code) (g := bodegalaw15_sameLeases_sig) (k := k) (Fn := (bodegalaw15_sameLeases_te k).F) mixed (tysOk _ _ _) (eqsOk _ _ _) (bodegalaw15_sameLeases_tab k) Tryz.func23 (by kernel_rfl) (by kernel_rfl) (of_decide_eq_true (by kernel_rfl)) (by kernel_rfl) (by kernel_rfl) (by kernel_rfl)
    (fun s q h => ⟨bodegalaw15_sameLeases_ac k, ok_of_fix _ _ (bodegalaw15_sameLeases_fix k), (bodegalaw15_sameLeases_eq k s).trans h⟩)

/-! #### bodega/bodegaref9.Expired -/
noncomputable def bodegaref9_Expired (_k : Nat) (h_0 : THolding) (now_1 : Int) : Option (Bool × Unit) :=
  some ((bif (decide (h_0.1 = (0:Int))) then true else (decide (h_0.2.1 < now_1))), ())
def bodegaref9_Expired_sig : Sig := ⟨[⟨false, y7, .s, .s⟩, ⟨false, (.int .i64), .s, .s⟩], [(.bool, .s)]⟩
noncomputable def bodegaref9_Expired_te (k : Nat) : TE := ⟨bodegaref9_Expired_sig, fun s => bodegaref9_Expired k s.1 s.2.1⟩
noncomputable def bodegaref9_Expired_C (_k : Nat) : Ctx := cx [] [] []
noncomputable def bodegaref9_Expired_code : Code := Tryz.f25.body.getD .skip
theorem bodegaref9_Expired_tab (k : Nat) : TabOk Tryz.prog (bodegaref9_Expired_C k) := ⟨tab_nil, lay_nil⟩
noncomputable def bodegaref9_Expired_ac (_k : Nat) : AC := (.sq .rg (.sq .rg .nx))
theorem bodegaref9_Expired_fix (k : Nat) : acFix (bodegaref9_Expired_C k) k 14 (bodegaref9_Expired_ac k) bodegaref9_Expired_code = bodegaref9_Expired_ac k := by kernel_rfl
theorem bodegaref9_Expired_eq (k : Nat) (s : bodegaref9_Expired_sig.S) : fnEv (bodegaref9_Expired_C k) k bodegaref9_Expired_sig Tryz.f25 bodegaref9_Expired_code (bodegaref9_Expired_ac k) s = (bodegaref9_Expired_te k).F s := by kernel_rfl
theorem bodegaref9_Expired_ok (k : Nat) : CallOk Tryz.prog 25 (bodegaref9_Expired_te k) :=
  fn_ok (C := bodegaref9_Expired_C k) (code := bodegaref9_Expired_code) (g := bodegaref9_Expired_sig) (k := k) (Fn := (bodegaref9_Expired_te k).F) mixed (tysOk _ _ _) (eqsOk _ _ _) (bodegaref9_Expired_tab k) Tryz.func25 (by kernel_rfl) (by kernel_rfl) (of_decide_eq_true (by kernel_rfl)) (by kernel_rfl) (by kernel_rfl) (by kernel_rfl)
    (fun s q h => ⟨bodegaref9_Expired_ac k, ok_of_fix _ _ (bodegaref9_Expired_fix k), (bodegaref9_Expired_eq k s).trans h⟩)

/-! #### bodega/bodegalaw15.LeasePeeks -/
noncomputable def bodegalaw15_LeasePeeks (k : Nat) (r_0 : TRaw) (nodes_1 : Int) (world_2 : (List TPoke)) (alter_3 : (List TAlter)) (more_4 : Bool) (now_5 : Int) : Option (Bool × Unit) :=
  bif (bif (decide ((16:Int) < (world_2.length : Int))) then true else (decide ((6:Int) < (alter_3.length : Int)))) then
    some (true, ())
  else
    Option.bind (bodegahand_Pick k nodes_1 (5:Int)) fun r1 =>
    Option.bind (bodegalaw15_Raw_view k r_0 (IntKind.i64.wrap (r1.1 + (1:Int)))) fun r2 =>
    Option.bind (lease_Peek k (r2.1, ()) ([] : (List (List TClocksOutcome)))) fun r3 =>
    Option.bind (bodegaref9_Peek k r2.1 ([] : (List (List TClocksOutcome)))) fun r4 =>
    Option.bind (bif (!(!(r3.2.2.1 == r4.2.2.2.1))) then bodegaref4_SameAll k r3.1 r4.1 else some (false, ())) fun r5 =>
    Option.bind (bif (!(bif (bif (bif (bif (!(r3.2.2.1 == r4.2.2.2.1)) then true else (!r5.1)) then true else (!(decide (r3.2.1.1 = r4.2.1)))) then true else (!(decide ((r3.2.1.2.1.length : Int) = (0:Int))))) then true else (!(decide ((r4.2.2.1.length : Int) = (0:Int)))))) then bodegalaw15_awake k  else some (false, ())) fun r6 =>
    bif (bif (bif (bif (bif (bif (!(r3.2.2.1 == r4.2.2.2.1)) then true else (!r5.1)) then true else (!(decide (r3.2.1.1 = r4.2.1)))) then true else (!(decide ((r3.2.1.2.1.length : Int) = (0:Int))))) then true else (!(decide ((r4.2.2.1.length : Int) = (0:Int))))) then true else (!r6.1)) then
      some (false, ())
    else
      Option.bind (bodegalaw15_replies k (IntKind.i64.wrap (r1.1 + (1:Int))) r4.1 world_2 alter_3 more_4) fun r7 =>
      Option.bind (lease_Peek k (r2.1, ()) r7.1) fun r8 =>
      Option.bind (bodegaref9_Peek k r2.1 r7.1) fun r9 =>
      Option.bind (bif (!(bif (bif (bif (!r8.2.2.1) then true else (!r9.2.2.2.1)) then true else (!(decide ((r8.1.length : Int) = (0:Int))))) then true else (!(decide (r8.2.1.1 = r9.2.1))))) then bodegalaw15_sameLeases k r8.2.1.2.1 r9.2.2.1 else some (false, ())) fun r10 =>
      bif (bif (bif (bif (bif (!r8.2.2.1) then true else (!r9.2.2.2.1)) then true else (!(decide ((r8.1.length : Int) = (0:Int))))) then true else (!(decide (r8.2.1.1 = r9.2.1)))) then true else (!r10.1)) then
        some (false, ())
      else
        Option.bind (lease_Expired k (r_0.2.1, r_0.2.2.1, ()) now_5) fun r11 =>
        Option.bind (bodegaref9_Expired k (r_0.2.1, r_0.2.2.1, ()) now_5) fun r12 =>
        some ((r11.1 == r12.1), ())
def bodegalaw15_LeasePeeks_sig : Sig := ⟨[⟨false, y12, .s, .s⟩, ⟨false, (.int .i64), .s, .s⟩, ⟨false, (.list y11), .s, .s⟩, ⟨false, (.list y5), .s, .s⟩, ⟨false, .bool, .s, .s⟩, ⟨false, (.int .i64), .s, .s⟩], [(.bool, .s)]⟩
noncomputable def bodegalaw15_LeasePeeks_te (k : Nat) : TE := ⟨bodegalaw15_LeasePeeks_sig, fun s => bodegalaw15_LeasePeeks k s.1 s.2.1 s.2.2.1 s.2.2.2.1 s.2.2.2.2.1 s.2.2.2.2.2.1⟩
noncomputable def bodegalaw15_LeasePeeks_C (k : Nat) : Ctx := cx [(7, bodegahand_Pick_te k), (11, bodegaref4_SameAll_te k), (12, bodegalaw15_awake_te k), (13, bodegalaw15_replies_te k), (14, bodegalaw15_Raw_view_te k), (21, lease_Peek_te k), (22, bodegaref9_Peek_te k), (23, bodegalaw15_sameLeases_te k), (24, lease_Expired_te k), (25, bodegaref9_Expired_te k)] [] []
noncomputable def bodegalaw15_LeasePeeks_code : Code := Tryz.f6.body.getD .skip
theorem bodegalaw15_LeasePeeks_tab (k : Nat) : TabOk Tryz.prog (bodegalaw15_LeasePeeks_C k) := ⟨tab_cons (bodegahand_Pick_ok k) (tab_cons (bodegaref4_SameAll_ok k) (tab_cons (bodegalaw15_awake_ok k) (tab_cons (bodegalaw15_replies_ok k) (tab_cons (bodegalaw15_Raw_view_ok k) (tab_cons (lease_Peek_ok k) (tab_cons (bodegaref9_Peek_ok k) (tab_cons (bodegalaw15_sameLeases_ok k) (tab_cons (lease_Expired_ok k) (tab_cons (bodegaref9_Expired_ok k) (tab_nil)))))))))), lay_nil⟩
noncomputable def bodegalaw15_LeasePeeks_ac (_k : Nat) : AC := (.sq .rg (.sq (.sq .rg (.cd (.sq .rg .nx) .nx)) (.sq .rg (.sq .rg (.sq .rg (.sq .rg (.sq (.sq .rg (.cd (.sq .rg .nx) .nx)) (.sq .rg (.sq .rg (.sq .rg (.sq (.sq .rg (.cd (.sq .rg .nx) .nx)) (.sq .rg (.sq .rg .nx)))))))))))))
theorem bodegalaw15_LeasePeeks_fix (k : Nat) : acFix (bodegalaw15_LeasePeeks_C k) k 144 (bodegalaw15_LeasePeeks_ac k) bodegalaw15_LeasePeeks_code = bodegalaw15_LeasePeeks_ac k := by kernel_rfl
theorem bodegalaw15_LeasePeeks_eq (k : Nat) (s : bodegalaw15_LeasePeeks_sig.S) : fnEv (bodegalaw15_LeasePeeks_C k) k bodegalaw15_LeasePeeks_sig Tryz.f6 bodegalaw15_LeasePeeks_code (bodegalaw15_LeasePeeks_ac k) s = (bodegalaw15_LeasePeeks_te k).F s := by kernel_rfl
theorem bodegalaw15_LeasePeeks_ok (k : Nat) : CallOk Tryz.prog 6 (bodegalaw15_LeasePeeks_te k) :=
  fn_ok (C := bodegalaw15_LeasePeeks_C k) (code := bodegalaw15_LeasePeeks_code) (g := bodegalaw15_LeasePeeks_sig) (k := k) (Fn := (bodegalaw15_LeasePeeks_te k).F) mixed (tysOk _ _ _) (eqsOk _ _ _) (bodegalaw15_LeasePeeks_tab k) Tryz.func6 (by kernel_rfl) (by kernel_rfl) (of_decide_eq_true (by kernel_rfl)) (by kernel_rfl) (by kernel_rfl) (by kernel_rfl)
    (fun s q h => ⟨bodegalaw15_LeasePeeks_ac k, ok_of_fix _ _ (bodegalaw15_LeasePeeks_fix k), (bodegalaw15_LeasePeeks_eq k s).trans h⟩)

/-! #### (*bodega/bodegaref6.Fabric).DropOrphan -/
noncomputable def bodegaref6_Fabric_DropOrphan (_k : Nat) (f_0 : TFabric) (i_1 : Int) : Option (Bool × TFabric × Unit) :=
  bif (bif (decide (i_1 < (0:Int))) then true else (decide ((f_0.2.2.2.2.1.length : Int) ≤ i_1))) then
    some (false, f_0, ())
  else
    bif (decide ((0:Int) ≤ (0:Int)) && decide ((0:Int) ≤ i_1) && decide (i_1 ≤ (f_0.2.2.2.2.1.length : Int))) then
      bif (decide (([] : (List TPair)).length + ((List.take (i_1.toNat) f_0.2.2.2.2.1).drop 0).length < 1073741824)) then
        bif (decide ((0:Int) ≤ (IntKind.i64.wrap (i_1 + (1:Int)))) && decide ((IntKind.i64.wrap (i_1 + (1:Int))) ≤ (f_0.2.2.2.2.1.length : Int)) && decide ((f_0.2.2.2.2.1.length : Int) ≤ (f_0.2.2.2.2.1.length : Int))) then
          bif (decide ((([] : (List TPair)) ++ ((List.take (i_1.toNat) f_0.2.2.2.2.1).drop 0)).length + ((List.take ((f_0.2.2.2.2.1.length : Int).toNat) f_0.2.2.2.2.1).drop ((IntKind.i64.wrap (i_1 + (1:Int))).toNat)).length < 1073741824)) then
            let v1 := (f_0.1, f_0.2.1, f_0.2.2.1, f_0.2.2.2.1, ((([] : (List TPair)) ++ ((List.take (i_1.toNat) f_0.2.2.2.2.1).drop 0)) ++ ((List.take ((f_0.2.2.2.2.1.length : Int).toNat) f_0.2.2.2.2.1).drop ((IntKind.i64.wrap (i_1 + (1:Int))).toNat))), f_0.2.2.2.2.2)
            some (true, v1, ())
          else none
        else none
      else none
    else none
def bodegaref6_Fabric_DropOrphan_sig : Sig := ⟨[⟨true, y1, q1, q1⟩, ⟨false, (.int .i64), .s, .s⟩], [(.bool, .s)]⟩
noncomputable def bodegaref6_Fabric_DropOrphan_te (k : Nat) : TE := ⟨bodegaref6_Fabric_DropOrphan_sig, fun s => bodegaref6_Fabric_DropOrphan k s.1 s.2.1⟩
noncomputable def bodegaref6_Fabric_DropOrphan_C (_k : Nat) : Ctx := cx [] [] []
noncomputable def bodegaref6_Fabric_DropOrphan_code : Code := Tryz.f94.body.getD .skip
theorem bodegaref6_Fabric_DropOrphan_tab (k : Nat) : TabOk Tryz.prog (bodegaref6_Fabric_DropOrphan_C k) := ⟨tab_nil, lay_nil⟩
noncomputable def bodegaref6_Fabric_DropOrphan_ac (_k : Nat) : AC := (.sq .rg (.sq (.sq .rg (.cd (.sq .rg .nx) .nx)) (.sq .rg (.sq .rg .nx))))
theorem bodegaref6_Fabric_DropOrphan_fix (k : Nat) : acFix (bodegaref6_Fabric_DropOrphan_C k) k 34 (bodegaref6_Fabric_DropOrphan_ac k) bodegaref6_Fabric_DropOrphan_code = bodegaref6_Fabric_DropOrphan_ac k := by kernel_rfl
theorem bodegaref6_Fabric_DropOrphan_eq (k : Nat) (s : bodegaref6_Fabric_DropOrphan_sig.S) : fnEv (bodegaref6_Fabric_DropOrphan_C k) k bodegaref6_Fabric_DropOrphan_sig Tryz.f94 bodegaref6_Fabric_DropOrphan_code (bodegaref6_Fabric_DropOrphan_ac k) s = (bodegaref6_Fabric_DropOrphan_te k).F s := by kernel_rfl
theorem bodegaref6_Fabric_DropOrphan_ok (k : Nat) : CallOk Tryz.prog 94 (bodegaref6_Fabric_DropOrphan_te k) :=
  fn_ok (C := bodegaref6_Fabric_DropOrphan_C k) (code := bodegaref6_Fabric_DropOrphan_code) (g := bodegaref6_Fabric_DropOrphan_sig) (k := k) (Fn := (bodegaref6_Fabric_DropOrphan_te k).F) mixed (tysOk _ _ _) (eqsOk _ _ _) (bodegaref6_Fabric_DropOrphan_tab k) Tryz.func94 (by kernel_rfl) (by kernel_rfl) (of_decide_eq_true (by kernel_rfl)) (by kernel_rfl) (by kernel_rfl) (by kernel_rfl)
    (fun s q h => ⟨bodegaref6_Fabric_DropOrphan_ac k, ok_of_fix _ _ (bodegaref6_Fabric_DropOrphan_fix k), (bodegaref6_Fabric_DropOrphan_eq k s).trans h⟩)

/-! #### bodega/bodegahand.consensus -/
noncomputable def bodegahand_consensus (k : Nat) (f_0 : TFabric) (n_1 : TNode) (t_2 : TPoke) : Option (TFabric × TNode × Unit) :=
  Option.bind (bodegahand_Pick k t_2.2.2.2.1 (3:Int)) fun r1 =>
  Option.bind (bodegahand_View k r1.1 t_2.2.2.2.2.1 (IntKind.i64.wrap (Int.tdiv t_2.2.2.2.2.1 (32:Int))) ([] : (List Int)) (f_0.2.1.length : Int)) fun r2 =>
  Option.bind (bodegaref9_Value k r2.1) fun r3 =>
  Option.bind (bodegahand_Pick k t_2.2.2.1 (40:Int)) fun r4 =>
  Option.bind (bodegaref1_ConsensusAt k r2.1.1) fun r5 =>
  Option.bind (bodegahand_Pick k (IntKind.i64.wrap (Int.tdiv t_2.2.2.2.1 (3:Int))) (2:Int)) fun r6 =>
  Option.bind (bodegaref1_Consensus k (IntKind.u64.wrap r4.1) (IntKind.u64.wrap ((IntKind.u64.wrap r4.1) * (IntKind.u64.wrap r6.1))) r3.1) fun r7 =>
  bif (decide ((0:Int) ≤ r5.1) && decide (r5.1 < (n_1.1.length : Int))) then
    some (f_0, ((n_1.1.set (r5.1.toNat) r7.1), n_1.2), ())
  else none
def bodegahand_consensus_sig : Sig := ⟨[⟨true, y1, q1, q1⟩, ⟨true, y10, (.p (.o .s) .s), (.p (.o .s) .s)⟩, ⟨false, y11, .s, .s⟩], []⟩
noncomputable def bodegahand_consensus_te (k : Nat) : TE := ⟨bodegahand_consensus_sig, fun s => bodegahand_consensus k s.1 s.2.1 s.2.2.1⟩
noncomputable def bodegahand_consensus_C (k : Nat) : Ctx := cx [(7, bodegahand_Pick_te k), (44, bodegahand_View_te k), (113, bodegaref1_ConsensusAt_te k), (120, bodegaref9_Value_te k), (121, bodegaref1_Consensus_te k)] [] []
noncomputable def bodegahand_consensus_code : Code := Tryz.f104.body.getD .skip
theorem bodegahand_consensus_tab (k : Nat) : TabOk Tryz.prog (bodegahand_consensus_C k) := ⟨tab_cons (bodegahand_Pick_ok k) (tab_cons (bodegahand_View_ok k) (tab_cons (bodegaref1_ConsensusAt_ok k) (tab_cons (bodegaref9_Value_ok k) (tab_cons (bodegaref1_Consensus_ok k) (tab_nil))))), lay_nil⟩
noncomputable def bodegahand_consensus_ac (_k : Nat) : AC := (.sq .rg (.sq .rg (.sq .rg (.sq .rg .rg))))
theorem bodegahand_consensus_fix (k : Nat) : acFix (bodegahand_consensus_C k) k 54 (bodegahand_consensus_ac k) bodegahand_consensus_code = bodegahand_consensus_ac k := by kernel_rfl
theorem bodegahand_consensus_eq (k : Nat) (s : bodegahand_consensus_sig.S) : fnEv (bodegahand_consensus_C k) k bodegahand_consensus_sig Tryz.f104 bodegahand_consensus_code (bodegahand_consensus_ac k) s = (bodegahand_consensus_te k).F s := by kernel_rfl
theorem bodegahand_consensus_ok (k : Nat) : CallOk Tryz.prog 104 (bodegahand_consensus_te k) :=
  fn_ok (C := bodegahand_consensus_C k) (code := bodegahand_consensus_code) (g := bodegahand_consensus_sig) (k := k) (Fn := (bodegahand_consensus_te k).F) mixed (tysOk _ _ _) (eqsOk _ _ _) (bodegahand_consensus_tab k) Tryz.func104 (by kernel_rfl) (by kernel_rfl) (of_decide_eq_true (by kernel_rfl)) (by kernel_rfl) (by kernel_rfl) (by kernel_rfl)
    (fun s q h => ⟨bodegahand_consensus_ac k, ok_of_fix _ _ (bodegahand_consensus_fix k), (bodegahand_consensus_eq k s).trans h⟩)

end Go.Proofs.YtkgjdglkkoabmaaGreat.N
