import Derived.Test.YtkgjdglkkoabmaaGreatN3

set_option maxRecDepth 1000000
namespace Go.Proofs.YtkgjdglkkoabmaaGreat.N
open Go.VL Go.Proofs

/-! #### bodega/lease.Clocks -/
noncomputable def lease_Clocks (k : Nat) (j_0 : (TView × Unit)) (got_1 : (List (List TClocksOutcome))) : Option ((List TVerb) × TClocksOutcome × Bool × Unit) :=
  Option.bind (view_Valid k j_0.1 (5:Int)) fun r1 =>
  bif (!(decide (r1.1 = (0:Int)))) then
    some (([] : (List TVerb)), (r1.1, ([] : (List Int)), ()), true, ())
  else
    Option.bind (layout_Clock k (0:Int)) fun r2 =>
    Option.bind (lease_readOnce_1 k j_0.1 r2.1 (8:Int) got_1) fun r3 =>
    some (r3.1, r3.2.1, r3.2.2.1, ())
def lease_Clocks_sig : Sig := ⟨[⟨false, (.pair y3 .unit), .s, .s⟩, ⟨false, (.list (.list y4)), .s, .s⟩], [((.list y2), .s), (y4, .s), (.bool, .s)]⟩
noncomputable def lease_Clocks_te (k : Nat) : TE := ⟨lease_Clocks_sig, fun s => lease_Clocks k s.1 s.2.1⟩
noncomputable def lease_Clocks_C (k : Nat) : Ctx := cx [(28, view_Valid_te k), (45, lease_readOnce_te k), (46, layout_Clock_te k)] [] []
noncomputable def lease_Clocks_code : Code := Tryz.f15.body.getD .skip
theorem lease_Clocks_tab (k : Nat) : TabOk Tryz.prog (lease_Clocks_C k) := ⟨tab_cons (view_Valid_ok k) (tab_cons (lease_readOnce_ok k) (tab_cons (layout_Clock_ok k) (tab_nil))), lay_nil⟩
noncomputable def lease_Clocks_ac (_k : Nat) : AC := (.sq .rg (.sq (.sq .rg (.sq .rg (.cd (.sq .rg .nx) .nx))) (.sq .rg .nx)))
theorem lease_Clocks_fix (k : Nat) : acFix (lease_Clocks_C k) k 23 (lease_Clocks_ac k) lease_Clocks_code = lease_Clocks_ac k := by kernel_rfl
theorem lease_Clocks_eq (k : Nat) (s : lease_Clocks_sig.S) : fnEv (lease_Clocks_C k) k lease_Clocks_sig Tryz.f15 lease_Clocks_code (lease_Clocks_ac k) s = (lease_Clocks_te k).F s := by kernel_rfl
theorem lease_Clocks_ok (k : Nat) : CallOk Tryz.prog 15 (lease_Clocks_te k) :=
  fn_ok (C := lease_Clocks_C k) (code := lease_Clocks_code) (g := lease_Clocks_sig) (k := k) (Fn := (lease_Clocks_te k).F) mixed (tysOk _ _ _) (eqsOk _ _ _) (lease_Clocks_tab k) Tryz.func15 (by kernel_rfl) (by kernel_rfl) (of_decide_eq_true (by kernel_rfl)) (by kernel_rfl) (by kernel_rfl) (by kernel_rfl)
    (fun s q h => ⟨lease_Clocks_ac k, ok_of_fix _ _ (lease_Clocks_fix k), (lease_Clocks_eq k s).trans h⟩)

/-! #### bodega/bodegaref9.get -/
noncomputable def bodegaref9_get (k : Nat) (v_0 : TView) (m_1 : TMember) (t_2 : Int) (n_3 : Int) : Option (TVerb × Unit) :=
  Option.bind (bodegaref9_Address k v_0 m_1 true ((1:Int), (0:Int), t_2, n_3, (0:Int), (0:Int), ([] : (List Int)), (0:Int), (0:Int), ())) fun r1 =>
  some (r1.1, ())
def bodegaref9_get_sig : Sig := ⟨[⟨false, y3, .s, .s⟩, ⟨false, y9, .s, .s⟩, ⟨false, (.int .i64), .s, .s⟩, ⟨false, (.int .i64), .s, .s⟩], [(y2, .s)]⟩
noncomputable def bodegaref9_get_te (k : Nat) : TE := ⟨bodegaref9_get_sig, fun s => bodegaref9_get k s.1 s.2.1 s.2.2.1 s.2.2.2.1⟩
noncomputable def bodegaref9_get_C (k : Nat) : Ctx := cx [(71, bodegaref9_Address_te k)] [] []
noncomputable def bodegaref9_get_code : Code := Tryz.f49.body.getD .skip
theorem bodegaref9_get_tab (k : Nat) : TabOk Tryz.prog (bodegaref9_get_C k) := ⟨tab_cons (bodegaref9_Address_ok k) (tab_nil), lay_nil⟩
noncomputable def bodegaref9_get_ac (_k : Nat) : AC := (.sq .rg (.sq .rg .nx))
theorem bodegaref9_get_fix (k : Nat) : acFix (bodegaref9_get_C k) k 15 (bodegaref9_get_ac k) bodegaref9_get_code = bodegaref9_get_ac k := by kernel_rfl
theorem bodegaref9_get_eq (k : Nat) (s : bodegaref9_get_sig.S) : fnEv (bodegaref9_get_C k) k bodegaref9_get_sig Tryz.f49 bodegaref9_get_code (bodegaref9_get_ac k) s = (bodegaref9_get_te k).F s := by kernel_rfl
theorem bodegaref9_get_ok (k : Nat) : CallOk Tryz.prog 49 (bodegaref9_get_te k) :=
  fn_ok (C := bodegaref9_get_C k) (code := bodegaref9_get_code) (g := bodegaref9_get_sig) (k := k) (Fn := (bodegaref9_get_te k).F) mixed (tysOk _ _ _) (eqsOk _ _ _) (bodegaref9_get_tab k) Tryz.func49 (by kernel_rfl) (by kernel_rfl) (of_decide_eq_true (by kernel_rfl)) (by kernel_rfl) (by kernel_rfl) (by kernel_rfl)
    (fun s q h => ⟨bodegaref9_get_ac k, ok_of_fix _ _ (bodegaref9_get_fix k), (bodegaref9_get_eq k s).trans h⟩)

/-! #### bodega/bodegaref9.Clocks -/
noncomputable def bodegaref9_Clocks (k : Nat) (v_0 : TView) (got_1 : (List (List TClocksOutcome))) : Option ((List TVerb) × Int × (List Int) × Bool × Unit) :=
  Option.bind (bodegaref9_ValidView k v_0 (5:Int)) fun r1 =>
  bif (!(decide (r1.1 = (0:Int)))) then
    some (([] : (List TVerb)), r1.1, ([] : (List Int)), true, ())
  else
    bif (decide ((0:Int) ≤ (0:Int)) && decide ((0:Int) < (v_0.2.1.length : Int))) then
      Option.bind (bodegaref1_Clock k (0:Int)) fun r2 =>
      Option.bind (bodegaref9_get k v_0 (v_0.2.1.getD 0 ((0:Int), (0:Int), false, ())) r2.1 (8:Int)) fun r3 =>
      Option.bind (bodegaref9_single k [r3.1] got_1) fun r4 =>
      bif r4.2.1 then
        some ([r3.1], (0:Int), ([] : (List Int)), false, ())
      else
        bif (!r4.2.2.1) then
          some (([] : (List TVerb)), (6:Int), ([] : (List Int)), true, ())
        else
          Option.bind (bodegaref4_First k r4.1) fun r5 =>
          bif (!(decide (r5.1 = (0:Int)))) then
            some (([] : (List TVerb)), r5.1, ([] : (List Int)), true, ())
          else
            bif (decide ((0:Int) ≤ (0:Int)) && decide ((0:Int) < (r4.1.length : Int))) then
              some (([] : (List TVerb)), (0:Int), (r4.1.getD 0 ((0:Int), ([] : (List Int)), ())).2.1, true, ())
            else none
    else none
def bodegaref9_Clocks_sig : Sig := ⟨[⟨false, y3, .s, .s⟩, ⟨false, (.list (.list y4)), .s, .s⟩], [((.list y2), .s), ((.int .i64), .s), ((.list (.int .u64)), .s), (.bool, .s)]⟩
noncomputable def bodegaref9_Clocks_te (k : Nat) : TE := ⟨bodegaref9_Clocks_sig, fun s => bodegaref9_Clocks k s.1 s.2.1⟩
noncomputable def bodegaref9_Clocks_C (k : Nat) : Ctx := cx [(34, bodegaref9_ValidView_te k), (37, bodegaref9_single_te k), (38, bodegaref4_First_te k), (49, bodegaref9_get_te k), (50, bodegaref1_Clock_te k)] [] []
noncomputable def bodegaref9_Clocks_code : Code := Tryz.f16.body.getD .skip
theorem bodegaref9_Clocks_tab (k : Nat) : TabOk Tryz.prog (bodegaref9_Clocks_C k) := ⟨tab_cons (bodegaref9_ValidView_ok k) (tab_cons (bodegaref9_single_ok k) (tab_cons (bodegaref4_First_ok k) (tab_cons (bodegaref9_get_ok k) (tab_cons (bodegaref1_Clock_ok k) (tab_nil))))), lay_nil⟩
noncomputable def bodegaref9_Clocks_ac (_k : Nat) : AC := (.sq .rg (.sq (.sq .rg (.sq .rg (.cd (.sq .rg .nx) .nx))) (.sq .rg (.sq .rg (.sq (.bk (.sq .rg (.cd (.sq .rg .nx) (.sq .rg (.cd (.sq .rg .nx) .nx))))) (.sq (.sq .rg (.sq .rg (.cd (.sq .rg .nx) .nx))) (.sq .rg .nx)))))))
theorem bodegaref9_Clocks_fix (k : Nat) : acFix (bodegaref9_Clocks_C k) k 49 (bodegaref9_Clocks_ac k) bodegaref9_Clocks_code = bodegaref9_Clocks_ac k := by kernel_rfl
theorem bodegaref9_Clocks_eq (k : Nat) (s : bodegaref9_Clocks_sig.S) : fnEv (bodegaref9_Clocks_C k) k bodegaref9_Clocks_sig Tryz.f16 bodegaref9_Clocks_code (bodegaref9_Clocks_ac k) s = (bodegaref9_Clocks_te k).F s := by kernel_rfl
theorem bodegaref9_Clocks_ok (k : Nat) : CallOk Tryz.prog 16 (bodegaref9_Clocks_te k) :=
  fn_ok (C := bodegaref9_Clocks_C k) (code := bodegaref9_Clocks_code) (g := bodegaref9_Clocks_sig) (k := k) (Fn := (bodegaref9_Clocks_te k).F) mixed (tysOk _ _ _) (eqsOk _ _ _) (bodegaref9_Clocks_tab k) Tryz.func16 (by kernel_rfl) (by kernel_rfl) (of_decide_eq_true (by kernel_rfl)) (by kernel_rfl) (by kernel_rfl) (by kernel_rfl)
    (fun s q h => ⟨bodegaref9_Clocks_ac k, ok_of_fix _ _ (bodegaref9_Clocks_fix k), (bodegaref9_Clocks_eq k s).trans h⟩)

/-! #### bodega/bodegalaw15.LeaseClocks -/
noncomputable def bodegalaw15_LeaseClocks (k : Nat) (r_0 : TRaw) (nodes_1 : Int) (world_2 : (List TPoke)) (alter_3 : (List TAlter)) (more_4 : Bool) : Option (Bool × Unit) :=
  bif (bif (decide ((16:Int) < (world_2.length : Int))) then true else (decide ((4:Int) < (alter_3.length : Int)))) then
    some (true, ())
  else
    Option.bind (bodegahand_Pick k nodes_1 (5:Int)) fun r1 =>
    Option.bind (bodegalaw15_Raw_view k r_0 (IntKind.i64.wrap (r1.1 + (1:Int)))) fun r2 =>
    Option.bind (lease_Clocks k (r2.1, ()) ([] : (List (List TClocksOutcome)))) fun r3 =>
    Option.bind (bodegaref9_Clocks k r2.1 ([] : (List (List TClocksOutcome)))) fun r4 =>
    Option.bind (bif (!(!(r3.2.2.1 == r4.2.2.2.1))) then bodegaref4_SameAll k r3.1 r4.1 else some (false, ())) fun r5 =>
    Option.bind (bif (!(bif (bif (bif (bif (!(r3.2.2.1 == r4.2.2.2.1)) then true else (!r5.1)) then true else (!(decide (r3.2.1.1 = r4.2.1)))) then true else (!(decide ((r3.2.1.2.1.length : Int) = (0:Int))))) then true else (!(decide ((r4.2.2.1.length : Int) = (0:Int)))))) then bodegalaw15_awake k  else some (false, ())) fun r6 =>
    bif (bif (bif (bif (bif (bif (!(r3.2.2.1 == r4.2.2.2.1)) then true else (!r5.1)) then true else (!(decide (r3.2.1.1 = r4.2.1)))) then true else (!(decide ((r3.2.1.2.1.length : Int) = (0:Int))))) then true else (!(decide ((r4.2.2.1.length : Int) = (0:Int))))) then true else (!r6.1)) then
      some (false, ())
    else
      Option.bind (bodegalaw15_replies k (IntKind.i64.wrap (r1.1 + (1:Int))) r4.1 world_2 alter_3 more_4) fun r7 =>
      Option.bind (lease_Clocks k (r2.1, ()) r7.1) fun r8 =>
      Option.bind (bodegaref9_Clocks k r2.1 r7.1) fun r9 =>
      Option.bind (bif (bif (bif (bif r8.2.2.1 then r9.2.2.2.1 else false) then (decide ((r8.1.length : Int) = (0:Int))) else false) then (decide (r8.2.1.1 = r9.2.1)) else false) then bodegaref1_SameWords k r8.2.1.2.1 r9.2.2.1 else some (false, ())) fun r10 =>
      some ((bif (bif (bif (bif r8.2.2.1 then r9.2.2.2.1 else false) then (decide ((r8.1.length : Int) = (0:Int))) else false) then (decide (r8.2.1.1 = r9.2.1)) else false) then r10.1 else false), ())
def bodegalaw15_LeaseClocks_sig : Sig := ⟨[⟨false, y12, .s, .s⟩, ⟨false, (.int .i64), .s, .s⟩, ⟨false, (.list y11), .s, .s⟩, ⟨false, (.list y5), .s, .s⟩, ⟨false, .bool, .s, .s⟩], [(.bool, .s)]⟩
noncomputable def bodegalaw15_LeaseClocks_te (k : Nat) : TE := ⟨bodegalaw15_LeaseClocks_sig, fun s => bodegalaw15_LeaseClocks k s.1 s.2.1 s.2.2.1 s.2.2.2.1 s.2.2.2.2.1⟩
noncomputable def bodegalaw15_LeaseClocks_C (k : Nat) : Ctx := cx [(7, bodegahand_Pick_te k), (11, bodegaref4_SameAll_te k), (12, bodegalaw15_awake_te k), (13, bodegalaw15_replies_te k), (14, bodegalaw15_Raw_view_te k), (15, lease_Clocks_te k), (16, bodegaref9_Clocks_te k), (17, bodegaref1_SameWords_te k)] [] []
noncomputable def bodegalaw15_LeaseClocks_code : Code := Tryz.f4.body.getD .skip
theorem bodegalaw15_LeaseClocks_tab (k : Nat) : TabOk Tryz.prog (bodegalaw15_LeaseClocks_C k) := ⟨tab_cons (bodegahand_Pick_ok k) (tab_cons (bodegaref4_SameAll_ok k) (tab_cons (bodegalaw15_awake_ok k) (tab_cons (bodegalaw15_replies_ok k) (tab_cons (bodegalaw15_Raw_view_ok k) (tab_cons (lease_Clocks_ok k) (tab_cons (bodegaref9_Clocks_ok k) (tab_cons (bodegaref1_SameWords_ok k) (tab_nil)))))))), lay_nil⟩
noncomputable def bodegalaw15_LeaseClocks_ac (_k : Nat) : AC := (.sq .rg (.sq (.sq .rg (.cd (.sq .rg .nx) .nx)) (.sq .rg (.sq .rg (.sq .rg (.sq .rg (.sq (.sq .rg (.cd (.sq .rg .nx) .nx)) (.sq .rg (.sq .rg (.sq .rg (.sq .rg .nx)))))))))))
theorem bodegalaw15_LeaseClocks_fix (k : Nat) : acFix (bodegalaw15_LeaseClocks_C k) k 122 (bodegalaw15_LeaseClocks_ac k) bodegalaw15_LeaseClocks_code = bodegalaw15_LeaseClocks_ac k := by kernel_rfl
theorem bodegalaw15_LeaseClocks_eq (k : Nat) (s : bodegalaw15_LeaseClocks_sig.S) : fnEv (bodegalaw15_LeaseClocks_C k) k bodegalaw15_LeaseClocks_sig Tryz.f4 bodegalaw15_LeaseClocks_code (bodegalaw15_LeaseClocks_ac k) s = (bodegalaw15_LeaseClocks_te k).F s := by kernel_rfl
theorem bodegalaw15_LeaseClocks_ok (k : Nat) : CallOk Tryz.prog 4 (bodegalaw15_LeaseClocks_te k) :=
  fn_ok (C := bodegalaw15_LeaseClocks_C k) (code := bodegalaw15_LeaseClocks_code) (g := bodegalaw15_LeaseClocks_sig) (k := k) (Fn := (bodegalaw15_LeaseClocks_te k).F) mixed (tysOk _ _ _) (eqsOk _ _ _) (bodegalaw15_LeaseClocks_tab k) Tryz.func4 (by kernel_rfl) (by kernel_rfl) (of_decide_eq_true (by kernel_rfl)) (by kernel_rfl) (by kernel_rfl) (by kernel_rfl)
    (fun s q h => ⟨bodegalaw15_LeaseClocks_ac k, ok_of_fix _ _ (bodegalaw15_LeaseClocks_fix k), (bodegalaw15_LeaseClocks_eq k s).trans h⟩)

/-! #### (bodega/bodegalaw15.Raw).resolve -/
noncomputable def bodegalaw15_Raw_resolve (k : Nat) (r_0 : TRaw) (nodes_1 : Int) : Option (TResolveJob × Unit) :=
  Option.bind (bodegahand_Pick k r_0.1 (6:Int)) fun r1 =>
  Option.bind (bodegahand_Pick k r_0.2.2.2.1 (9:Int)) fun r2 =>
  Option.bind (bodegalaw15_Raw_view k r_0 nodes_1) fun r3 =>
  Option.bind (bodegahand_Pick k r_0.2.2.2.2.2.1 (9:Int)) fun r4 =>
  bif (decide (r4.1 = (1:Int))) then
    some ((r_0.1, (IntKind.i64.wrap (r2.1 + (1:Int))), r3.1, ()), ())
  else
    bif (decide (r4.1 = (2:Int))) then
      some ((r1.1, r_0.2.2.2.1, r3.1, ()), ())
    else
      some ((r1.1, (IntKind.i64.wrap (r2.1 + (1:Int))), r3.1, ()), ())
def bodegalaw15_Raw_resolve_sig : Sig := ⟨[⟨false, y12, .s, .s⟩, ⟨false, (.int .i64), .s, .s⟩], [(y13, (.p .s (.p .s (.p q2 .s))))]⟩
noncomputable def bodegalaw15_Raw_resolve_te (k : Nat) : TE := ⟨bodegalaw15_Raw_resolve_sig, fun s => bodegalaw15_Raw_resolve k s.1 s.2.1⟩
noncomputable def bodegalaw15_Raw_resolve_C (k : Nat) : Ctx := cx [(7, bodegahand_Pick_te k), (14, bodegalaw15_Raw_view_te k)] [] []
noncomputable def bodegalaw15_Raw_resolve_code : Code := Tryz.f18.body.getD .skip
theorem bodegalaw15_Raw_resolve_tab (k : Nat) : TabOk Tryz.prog (bodegalaw15_Raw_resolve_C k) := ⟨tab_cons (bodegahand_Pick_ok k) (tab_cons (bodegalaw15_Raw_view_ok k) (tab_nil)), lay_nil⟩
noncomputable def bodegalaw15_Raw_resolve_ac (_k : Nat) : AC := (.sq .rg (.sq .rg (.sq (.sq .rg (.bk (.sq .rg (.cd .rg (.sq .rg (.cd .rg .nx)))))) (.sq .rg .nx))))
theorem bodegalaw15_Raw_resolve_fix (k : Nat) : acFix (bodegalaw15_Raw_resolve_C k) k 31 (bodegalaw15_Raw_resolve_ac k) bodegalaw15_Raw_resolve_code = bodegalaw15_Raw_resolve_ac k := by kernel_rfl
theorem bodegalaw15_Raw_resolve_eq (k : Nat) (s : bodegalaw15_Raw_resolve_sig.S) : fnEv (bodegalaw15_Raw_resolve_C k) k bodegalaw15_Raw_resolve_sig Tryz.f18 bodegalaw15_Raw_resolve_code (bodegalaw15_Raw_resolve_ac k) s = (bodegalaw15_Raw_resolve_te k).F s := by kernel_rfl
theorem bodegalaw15_Raw_resolve_ok (k : Nat) : CallOk Tryz.prog 18 (bodegalaw15_Raw_resolve_te k) :=
  fn_ok (C := bodegalaw15_Raw_resolve_C k) (code := bodegalaw15_Raw_resolve_code) (g := bodegalaw15_Raw_resolve_sig) (k := k) (Fn := (bodegalaw15_Raw_resolve_te k).F) mixed (tysOk _ _ _) (eqsOk _ _ _) (bodegalaw15_Raw_resolve_tab k) Tryz.func18 (by kernel_rfl) (by kernel_rfl) (of_decide_eq_true (by kernel_rfl)) (by kernel_rfl) (by kernel_rfl) (by kernel_rfl)
    (fun s q h => ⟨bodegalaw15_Raw_resolve_ac k, ok_of_fix _ _ (bodegalaw15_Raw_resolve_fix k), (bodegalaw15_Raw_resolve_eq k s).trans h⟩)

/-! #### bodega/lease.Resolve$1 -/
noncomputable def lease_Resolve_1 (_k : Nat) (e_0 : Int) (words_1 : (List Int)) (t_2 : TResolveJob) : Option (TResolveOutcome × TResolveJob × Unit) :=
  bif ((decide ((0:Int) ≤ (0:Int)) && decide ((0:Int) < (words_1.length : Int))) || (!(decide (e_0 = (0:Int))))) then
    some ((e_0, (bif (decide (e_0 = (0:Int))) then (decide ((IntKind.u64.wrap t_2.2.1) ≤ (words_1.getD 0 (0:Int)))) else false), ()), t_2, ())
  else none
def lease_Resolve_1_sig : Sig := ⟨[⟨false, (.int .i64), .s, .s⟩, ⟨false, (.list (.int .u64)), .s, .s⟩, ⟨true, y13, .s, .s⟩], [((.pair (.int .i64) (.pair .bool .unit)), .s)]⟩
noncomputable def lease_Resolve_1_te (k : Nat) : TE := ⟨lease_Resolve_1_sig, fun s => lease_Resolve_1 k s.1 s.2.1 s.2.2.1⟩
noncomputable def lease_Resolve_1_C (_k : Nat) : Ctx := cx [] [] []
noncomputable def lease_Resolve_1_code : Code := Tryz.f52.body.getD .skip
theorem lease_Resolve_1_tab (k : Nat) : TabOk Tryz.prog (lease_Resolve_1_C k) := ⟨tab_nil, lay_nil⟩
noncomputable def lease_Resolve_1_ac (_k : Nat) : AC := (.sq .rg (.sq .rg .nx))
theorem lease_Resolve_1_fix (k : Nat) : acFix (lease_Resolve_1_C k) k 19 (lease_Resolve_1_ac k) lease_Resolve_1_code = lease_Resolve_1_ac k := by kernel_rfl
theorem lease_Resolve_1_eq (k : Nat) (s : lease_Resolve_1_sig.S) : fnEv (lease_Resolve_1_C k) k lease_Resolve_1_sig Tryz.f52 lease_Resolve_1_code (lease_Resolve_1_ac k) s = (lease_Resolve_1_te k).F s := by kernel_rfl
theorem lease_Resolve_1_ok (k : Nat) : CallOk Tryz.prog 52 (lease_Resolve_1_te k) :=
  fn_ok (C := lease_Resolve_1_C k) (code := lease_Resolve_1_code) (g := lease_Resolve_1_sig) (k := k) (Fn := (lease_Resolve_1_te k).F) mixed (tysOk _ _ _) (eqsOk _ _ _) (lease_Resolve_1_tab k) Tryz.func52 (by kernel_rfl) (by kernel_rfl) (of_decide_eq_true (by kernel_rfl)) (by kernel_rfl) (by kernel_rfl) (by kernel_rfl)
    (fun s q h => ⟨lease_Resolve_1_ac k, ok_of_fix _ _ (lease_Resolve_1_fix k), (lease_Resolve_1_eq k s).trans h⟩)

/-! #### bodega/lease.readOnce(bodega/lease.ResolveOutcome) -/
noncomputable def lease_readOnce_2_l0 (k : Nat) (g_0 : TView) (g_1 : Int) (g_2 : Int) (g_3 : (List (List TClocksOutcome))) (g_4 : TResolveJob) : Option ((List TVerb) × TResolveOutcome × Bool × TResolveJob × Unit) :=
  Option.bind (view_Primary k g_0) fun r1 =>
  Option.bind (view_Address k g_0 r1.1 true ((1:Int), (0:Int), g_1, g_2, (0:Int), (0:Int), ([] : (List Int)), (0:Int), (0:Int), ())) fun r2 =>
  Option.bind (lease_talkOnce k [r2.1] g_3) fun r3 =>
  bif (!r3.2.2.2.1) then
    some (r3.1, ((0:Int), false, ()), false, g_4, ())
  else
    bif (!(decide (r3.2.2.1 = (0:Int)))) then
      Option.bind (lease_Resolve_1 k r3.2.2.1 ([] : (List Int)) g_4) fun r4 =>
      some (([] : (List TVerb)), r4.1, true, r4.2.1, ())
    else
      bif (decide ((0:Int) ≤ (0:Int)) && decide ((0:Int) < (r3.2.1.length : Int))) then
        Option.bind (lease_Resolve_1 k (0:Int) (r3.2.1.getD 0 ((0:Int), ([] : (List Int)), ())).2.1 g_4) fun r5 =>
        some (([] : (List TVerb)), r5.1, true, r5.2.1, ())
      else none
def lease_readOnce_2_l0_sig : Sig := ⟨[⟨false, y3, .s, .s⟩, ⟨false, (.int .i64), .s, .s⟩, ⟨false, (.int .i64), .s, .s⟩, ⟨false, (.list (.list y4)), .s, .s⟩, ⟨true, y13, .s, .s⟩], [((.list y2), .s), ((.pair (.int .i64) (.pair .bool .unit)), .s), (.bool, .s)]⟩
noncomputable def lease_readOnce_2_l0_te (k : Nat) : TE := ⟨lease_readOnce_2_l0_sig, fun s => lease_readOnce_2_l0 k s.1 s.2.1 s.2.2.1 s.2.2.2.1 s.2.2.2.2.1⟩
noncomputable def lease_readOnce_2_l0_tel (k : Nat) : TEL := ⟨lease_readOnce_2_l0_te k, [.arg 0, .arg 1, .arg 2, .arg 3, .cap 4 0], [.src 0, .src 1, .src 2, .src 3, .clo 52 [4]]⟩
noncomputable def lease_readOnce_2_l0_C (k : Nat) : Ctx := cx [(30, view_Address_te k), (31, lease_talkOnce_te k), (52, lease_Resolve_1_te k), (83, view_Primary_te k)] [] []
noncomputable def lease_readOnce_2_l0_code : Code := Tryz.f51.body.getD .skip
theorem lease_readOnce_2_l0_tab (k : Nat) : TabOk Tryz.prog (lease_readOnce_2_l0_C k) := ⟨tab_cons (view_Address_ok k) (tab_cons (lease_talkOnce_ok k) (tab_cons (lease_Resolve_1_ok k) (tab_cons (view_Primary_ok k) (tab_nil)))), lay_nil⟩
noncomputable def lease_readOnce_2_l0_ac (_k : Nat) : AC := (.sq .rg (.sq .rg (.sq .rg (.sq .rg (.sq (.bk (.sq .rg (.cd (.sq .rg .nx) (.sq .rg (.cd (.sq .rg .nx) .nx))))) (.sq .rg .nx))))))
theorem lease_readOnce_2_l0_fix (k : Nat) : acFix (lease_readOnce_2_l0_C k) k 60 (lease_readOnce_2_l0_ac k) lease_readOnce_2_l0_code = lease_readOnce_2_l0_ac k := by kernel_rfl
theorem lease_readOnce_2_l0_eq (k : Nat) (s : lease_readOnce_2_l0_sig.S) : fnEvL (lease_readOnce_2_l0_C k) k lease_readOnce_2_l0_sig (lease_readOnce_2_l0_tel k).lay Tryz.f51 lease_readOnce_2_l0_code (lease_readOnce_2_l0_ac k) s = (lease_readOnce_2_l0_te k).F s := by kernel_rfl
theorem lease_readOnce_2_l0_ok (k : Nat) : CallOkL Tryz.prog 51 (lease_readOnce_2_l0_tel k) :=
  fn_okL (C := lease_readOnce_2_l0_C k) (code := lease_readOnce_2_l0_code) (t := lease_readOnce_2_l0_tel k) (k := k) mixed (tysOk _ _ _) (eqsOk _ _ _) (lease_readOnce_2_l0_tab k) Tryz.func51 (by kernel_rfl) (by kernel_rfl) (of_decide_eq_true (by kernel_rfl)) (by kernel_rfl) (by kernel_rfl) (by kernel_rfl)
    (fun s q h => ⟨lease_readOnce_2_l0_ac k, ok_of_fix _ _ (lease_readOnce_2_l0_fix k), (lease_readOnce_2_l0_eq k s).trans h⟩)

/-! #### bodega/lease.Resolve -/
noncomputable def lease_Resolve_J1 (k : Nat) (got_1 : (List (List TClocksOutcome))) (j_2 : TResolveJob) (out_5 : TResolveOutcome) (e_7 : Int) : Option (((List (List TClocksOutcome)) × TResolveJob × TResolveOutcome × Int × Unit)) :=
  Option.bind (lease_isClient k j_2.1) fun r2 =>
  bif (!r2.1) then
    some (got_1, j_2, out_5, (1:Int), ())
  else
    bif (bif (decide (j_2.2.1 < (1:Int))) then true else (decide ((1073741824:Int) ≤ j_2.2.1))) then
      some (got_1, j_2, out_5, (2:Int), ())
    else
      some (got_1, j_2, out_5, e_7, ())
noncomputable def lease_Resolve (k : Nat) (j_0 : TResolveJob) (got_1 : (List (List TClocksOutcome))) : Option ((List TVerb) × TResolveOutcome × Bool × Unit) :=
  Option.bind (view_Valid k j_0.2.2.1 (5:Int)) fun r1 =>
  Option.bind (lease_Resolve_J1 k got_1 j_0 ((0:Int), false, ()) r1.1) fun o3 =>
  bif (!(decide (o3.2.2.2.1 = (0:Int)))) then
    some (([] : (List TVerb)), (o3.2.2.2.1, false, ()), true, ())
  else
    Option.bind (layout_Clock k o3.2.1.1) fun r4 =>
    Option.bind (lease_readOnce_2_l0 k o3.2.1.2.2.1 r4.1 (1:Int) o3.1 o3.2.1) fun r5 =>
    some (r5.1, r5.2.1, r5.2.2.1, ())
def lease_Resolve_sig : Sig := ⟨[⟨false, y13, .s, .s⟩, ⟨false, (.list (.list y4)), .s, .s⟩], [((.list y2), .s), ((.pair (.int .i64) (.pair .bool .unit)), .s), (.bool, .s)]⟩
noncomputable def lease_Resolve_te (k : Nat) : TE := ⟨lease_Resolve_sig, fun s => lease_Resolve k s.1 s.2.1⟩
noncomputable def lease_Resolve_C (k : Nat) : Ctx := cx [(26, lease_isClient_te k), (28, view_Valid_te k), (46, layout_Clock_te k)] [(51, lease_readOnce_2_l0_tel k)] []
noncomputable def lease_Resolve_code : Code := Tryz.f19.body.getD .skip
theorem lease_Resolve_tab (k : Nat) : TabOk Tryz.prog (lease_Resolve_C k) := ⟨tab_cons (lease_isClient_ok k) (tab_cons (view_Valid_ok k) (tab_cons (layout_Clock_ok k) (tab_nil))), lay_cons (lease_readOnce_2_l0_ok k) (lay_nil)⟩
noncomputable def lease_Resolve_ac (k : Nat) : AC := (.sq .rg (.sq .rg (.sq (.sm [(1, .va (.list (.list y4)) .s), (2, .bo y13 .s), (5, .bo (.pair (.int .i64) (.pair .bool .unit)) .s), (7, .va (.int .i64) .s)] [(.normal, [(1, .va (.list (.list y4)) .s), (2, .bo y13 .s), (5, .bo (.pair (.int .i64) (.pair .bool .unit)) .s), (7, .va (.int .i64) .s)])] (fun s => lease_Resolve_J1 k s.1 s.2.1 s.2.2.1 s.2.2.2.1) (.bk (.sq .rg (.cd .rg (.sq .rg (.cd .rg .nx)))))) (.sq (.sq .rg (.cd (.sq .rg .nx) .nx)) (.sq .rg .nx)))))
theorem lease_Resolve_fix (k : Nat) : acFix (lease_Resolve_C k) k 40 (lease_Resolve_ac k) lease_Resolve_code = lease_Resolve_ac k := by kernel_rfl
theorem lease_Resolve_eq (k : Nat) (s : lease_Resolve_sig.S) : fnEv (lease_Resolve_C k) k lease_Resolve_sig Tryz.f19 lease_Resolve_code (lease_Resolve_ac k) s = (lease_Resolve_te k).F s := by kernel_rfl
theorem lease_Resolve_ok (k : Nat) : CallOk Tryz.prog 19 (lease_Resolve_te k) :=
  fn_ok (C := lease_Resolve_C k) (code := lease_Resolve_code) (g := lease_Resolve_sig) (k := k) (Fn := (lease_Resolve_te k).F) mixed (tysOk _ _ _) (eqsOk _ _ _) (lease_Resolve_tab k) Tryz.func19 (by kernel_rfl) (by kernel_rfl) (of_decide_eq_true (by kernel_rfl)) (by kernel_rfl) (by kernel_rfl) (by kernel_rfl)
    (fun s q h => ⟨lease_Resolve_ac k, ok_of_fix _ _ (lease_Resolve_fix k), (lease_Resolve_eq k s).trans h⟩)

/-! #### bodega/bodegaref9.Resolve -/
noncomputable def bodegaref9_Resolve (k : Nat) (client_0 : Int) (seq_1 : Int) (v_2 : TView) (got_3 : (List (List TClocksOutcome))) : Option ((List TVerb) × Int × Bool × Bool × Unit) :=
  Option.bind (bodegaref1_Client k client_0) fun r1 =>
  bif (!r1.1) then
    some (([] : (List TVerb)), (1:Int), false, true, ())
  else
    bif (bif (decide (seq_1 < (1:Int))) then true else (decide ((1073741824:Int) ≤ seq_1))) then
      some (([] : (List TVerb)), (2:Int), false, true, ())
    else
      Option.bind (bodegaref9_ValidView k v_2 (5:Int)) fun r2 =>
      bif (!(decide (r2.1 = (0:Int)))) then
        some (([] : (List TVerb)), r2.1, false, true, ())
      else
        bif (decide ((0:Int) ≤ (0:Int)) && decide ((0:Int) < (v_2.2.1.length : Int))) then
          Option.bind (bodegaref1_Clock k client_0) fun r3 =>
          Option.bind (bodegaref9_get k v_2 (v_2.2.1.getD 0 ((0:Int), (0:Int), false, ())) r3.1 (1:Int)) fun r4 =>
          Option.bind (bodegaref9_single k [r4.1] got_3) fun r5 =>
          bif r5.2.1 then
            some ([r4.1], (0:Int), false, false, ())
          else
            bif (!r5.2.2.1) then
              some (([] : (List TVerb)), (6:Int), false, true, ())
            else
              Option.bind (bodegaref4_First k r5.1) fun r6 =>
              bif ((decide ((0:Int) ≤ (0:Int)) && decide ((0:Int) < (r5.1.length : Int))) || (!(decide (r6.1 = (0:Int))))) then
                bif ((decide ((0:Int) ≤ (0:Int)) && decide ((0:Int) < ((r5.1.getD 0 ((0:Int), ([] : (List Int)), ())).2.1.length : Int))) || (!(decide (r6.1 = (0:Int))))) then
                  some (([] : (List TVerb)), r6.1, (bif (decide (r6.1 = (0:Int))) then (decide ((IntKind.u64.wrap seq_1) ≤ ((r5.1.getD 0 ((0:Int), ([] : (List Int)), ())).2.1.getD 0 (0:Int)))) else false), true, ())
                else none
              else none
        else none
def bodegaref9_Resolve_sig : Sig := ⟨[⟨false, (.int .i64), .s, .s⟩, ⟨false, (.int .i64), .s, .s⟩, ⟨false, y3, .s, .s⟩, ⟨false, (.list (.list y4)), .s, .s⟩], [((.list y2), .s), ((.int .i64), .s), (.bool, .s), (.bool, .s)]⟩
noncomputable def bodegaref9_Resolve_te (k : Nat) : TE := ⟨bodegaref9_Resolve_sig, fun s => bodegaref9_Resolve k s.1 s.2.1 s.2.2.1 s.2.2.2.1⟩
noncomputable def bodegaref9_Resolve_C (k : Nat) : Ctx := cx [(32, bodegaref1_Client_te k), (34, bodegaref9_ValidView_te k), (37, bodegaref9_single_te k), (38, bodegaref4_First_te k), (49, bodegaref9_get_te k), (50, bodegaref1_Clock_te k)] [] []
noncomputable def bodegaref9_Resolve_code : Code := Tryz.f20.body.getD .skip
theorem bodegaref9_Resolve_tab (k : Nat) : TabOk Tryz.prog (bodegaref9_Resolve_C k) := ⟨tab_cons (bodegaref1_Client_ok k) (tab_cons (bodegaref9_ValidView_ok k) (tab_cons (bodegaref9_single_ok k) (tab_cons (bodegaref4_First_ok k) (tab_cons (bodegaref9_get_ok k) (tab_cons (bodegaref1_Clock_ok k) (tab_nil)))))), lay_nil⟩
noncomputable def bodegaref9_Resolve_ac (_k : Nat) : AC := (.sq .rg (.sq (.sq .rg (.cd (.sq .rg .nx) .nx)) (.sq (.sq .rg (.cd (.sq .rg .nx) .nx)) (.sq (.sq .rg (.sq .rg (.cd (.sq .rg .nx) .nx))) (.sq .rg (.sq .rg (.sq (.bk (.sq .rg (.cd (.sq .rg .nx) (.sq .rg (.cd (.sq .rg .nx) .nx))))) (.sq .rg (.sq .rg .nx)))))))))
theorem bodegaref9_Resolve_fix (k : Nat) : acFix (bodegaref9_Resolve_C k) k 70 (bodegaref9_Resolve_ac k) bodegaref9_Resolve_code = bodegaref9_Resolve_ac k := by kernel_rfl
theorem bodegaref9_Resolve_eq (k : Nat) (s : bodegaref9_Resolve_sig.S) : fnEv (bodegaref9_Resolve_C k) k bodegaref9_Resolve_sig Tryz.f20 bodegaref9_Resolve_code (bodegaref9_Resolve_ac k) s = (bodegaref9_Resolve_te k).F s := by kernel_rfl
theorem bodegaref9_Resolve_ok (k : Nat) : CallOk Tryz.prog 20 (bodegaref9_Resolve_te k) :=
  fn_ok (C := bodegaref9_Resolve_C k) (code := bodegaref9_Resolve_code) (g := bodegaref9_Resolve_sig) (k := k) (Fn := (bodegaref9_Resolve_te k).F) mixed (tysOk _ _ _) (eqsOk _ _ _) (bodegaref9_Resolve_tab k) Tryz.func20 (by kernel_rfl) (by kernel_rfl) (of_decide_eq_true (by kernel_rfl)) (by kernel_rfl) (by kernel_rfl) (by kernel_rfl)
    (fun s q h => ⟨bodegaref9_Resolve_ac k, ok_of_fix _ _ (bodegaref9_Resolve_fix k), (bodegaref9_Resolve_eq k s).trans h⟩)

/-! #### bodega/bodegalaw15.LeaseResolves -/
noncomputable def bodegalaw15_LeaseResolves (k : Nat) (r_0 : TRaw) (nodes_1 : Int) (world_2 : (List TPoke)) (alter_3 : (List TAlter)) (more_4 : Bool) : Option (Bool × Unit) :=
  bif (bif (decide ((10:Int) < (world_2.length : Int))) then true else (decide ((4:Int) < (alter_3.length : Int)))) then
    some (true, ())
  else
    Option.bind (bodegahand_Pick k nodes_1 (5:Int)) fun r1 =>
    Option.bind (bodegalaw15_Raw_resolve k r_0 (IntKind.i64.wrap (r1.1 + (1:Int)))) fun r2 =>
    Option.bind (lease_Resolve k r2.1 ([] : (List (List TClocksOutcome)))) fun r3 =>
    Option.bind (bodegaref9_Resolve k r2.1.1 r2.1.2.1 r2.1.2.2.1 ([] : (List (List TClocksOutcome)))) fun r4 =>
    Option.bind (bif (!(!(r3.2.2.1 == r4.2.2.2.1))) then bodegaref4_SameAll k r3.1 r4.1 else some (false, ())) fun r5 =>
    Option.bind (bif (!(bif (bif (bif (bif (!(r3.2.2.1 == r4.2.2.2.1)) then true else (!r5.1)) then true else (!(decide (r3.2.1.1 = r4.2.1)))) then true else r3.2.1.2.1) then true else r4.2.2.1)) then bodegalaw15_awake k  else some (false, ())) fun r6 =>
    bif (bif (bif (bif (bif (bif (!(r3.2.2.1 == r4.2.2.2.1)) then true else (!r5.1)) then true else (!(decide (r3.2.1.1 = r4.2.1)))) then true else r3.2.1.2.1) then true else r4.2.2.1) then true else (!r6.1)) then
      some (false, ())
    else
      Option.bind (bodegalaw15_replies k (IntKind.i64.wrap (r1.1 + (1:Int))) r4.1 world_2 alter_3 more_4) fun r7 =>
      Option.bind (lease_Resolve k r2.1 r7.1) fun r8 =>
      Option.bind (bodegaref9_Resolve k r2.1.1 r2.1.2.1 r2.1.2.2.1 r7.1) fun r9 =>
      some ((bif (bif (bif (bif r8.2.2.1 then r9.2.2.2.1 else false) then (decide ((r8.1.length : Int) = (0:Int))) else false) then (decide (r8.2.1.1 = r9.2.1)) else false) then (r8.2.1.2.1 == r9.2.2.1) else false), ())
def bodegalaw15_LeaseResolves_sig : Sig := ⟨[⟨false, y12, .s, .s⟩, ⟨false, (.int .i64), .s, .s⟩, ⟨false, (.list y11), .s, .s⟩, ⟨false, (.list y5), .s, .s⟩, ⟨false, .bool, .s, .s⟩], [(.bool, .s)]⟩
noncomputable def bodegalaw15_LeaseResolves_te (k : Nat) : TE := ⟨bodegalaw15_LeaseResolves_sig, fun s => bodegalaw15_LeaseResolves k s.1 s.2.1 s.2.2.1 s.2.2.2.1 s.2.2.2.2.1⟩
noncomputable def bodegalaw15_LeaseResolves_C (k : Nat) : Ctx := cx [(7, bodegahand_Pick_te k), (11, bodegaref4_SameAll_te k), (12, bodegalaw15_awake_te k), (13, bodegalaw15_replies_te k), (18, bodegalaw15_Raw_resolve_te k), (19, lease_Resolve_te k), (20, bodegaref9_Resolve_te k)] [] []
noncomputable def bodegalaw15_LeaseResolves_code : Code := Tryz.f5.body.getD .skip
theorem bodegalaw15_LeaseResolves_tab (k : Nat) : TabOk Tryz.prog (bodegalaw15_LeaseResolves_C k) := ⟨tab_cons (bodegahand_Pick_ok k) (tab_cons (bodegaref4_SameAll_ok k) (tab_cons (bodegalaw15_awake_ok k) (tab_cons (bodegalaw15_replies_ok k) (tab_cons (bodegalaw15_Raw_resolve_ok k) (tab_cons (lease_Resolve_ok k) (tab_cons (bodegaref9_Resolve_ok k) (tab_nil))))))), lay_nil⟩
noncomputable def bodegalaw15_LeaseResolves_ac (_k : Nat) : AC := (.sq .rg (.sq (.sq .rg (.cd (.sq .rg .nx) .nx)) (.sq .rg (.sq .rg (.sq .rg (.sq .rg (.sq (.sq .rg (.cd (.sq .rg .nx) .nx)) (.sq .rg (.sq .rg (.sq .rg (.sq .rg .nx)))))))))))
theorem bodegalaw15_LeaseResolves_fix (k : Nat) : acFix (bodegalaw15_LeaseResolves_C k) k 125 (bodegalaw15_LeaseResolves_ac k) bodegalaw15_LeaseResolves_code = bodegalaw15_LeaseResolves_ac k := by kernel_rfl
theorem bodegalaw15_LeaseResolves_eq (k : Nat) (s : bodegalaw15_LeaseResolves_sig.S) : fnEv (bodegalaw15_LeaseResolves_C k) k bodegalaw15_LeaseResolves_sig Tryz.f5 bodegalaw15_LeaseResolves_code (bodegalaw15_LeaseResolves_ac k) s = (bodegalaw15_LeaseResolves_te k).F s := by kernel_rfl
theorem bodegalaw15_LeaseResolves_ok (k : Nat) : CallOk Tryz.prog 5 (bodegalaw15_LeaseResolves_te k) :=
  fn_ok (C := bodegalaw15_LeaseResolves_C k) (code := bodegalaw15_LeaseResolves_code) (g := bodegalaw15_LeaseResolves_sig) (k := k) (Fn := (bodegalaw15_LeaseResolves_te k).F) mixed (tysOk _ _ _) (eqsOk _ _ _) (bodegalaw15_LeaseResolves_tab k) Tryz.func5 (by kernel_rfl) (by kernel_rfl) (of_decide_eq_true (by kernel_rfl)) (by kernel_rfl) (by kernel_rfl) (by kernel_rfl)
    (fun s q h => ⟨bodegalaw15_LeaseResolves_ac k, ok_of_fix _ _ (bodegalaw15_LeaseResolves_fix k), (bodegalaw15_LeaseResolves_eq k s).trans h⟩)

/-! #### bodega/word.mask -/
noncomputable def word_mask (_k : Nat) (n_0 : Int) : Option (Int × Unit) :=
  bif (decide ((0:Int) ≤ (IntKind.u64.wrap n_0))) then
    some ((IntKind.u64.wrap ((ishl .u64 (1:Int) (IntKind.u64.wrap n_0)) - (1:Int))), ())
  else none
def word_mask_sig : Sig := ⟨[⟨false, (.int .i64), .s, .s⟩], [((.int .u64), .s)]⟩
noncomputable def word_mask_te (k : Nat) : TE := ⟨word_mask_sig, fun s => word_mask k s.1⟩
noncomputable def word_mask_C (_k : Nat) : Ctx := cx [] [] []
noncomputable def word_mask_code : Code := Tryz.f84.body.getD .skip
theorem word_mask_tab (k : Nat) : TabOk Tryz.prog (word_mask_C k) := ⟨tab_nil, lay_nil⟩
noncomputable def word_mask_ac (_k : Nat) : AC := (.sq .rg (.sq .rg .nx))
theorem word_mask_fix (k : Nat) : acFix (word_mask_C k) k 7 (word_mask_ac k) word_mask_code = word_mask_ac k := by kernel_rfl
theorem word_mask_eq (k : Nat) (s : word_mask_sig.S) : fnEv (word_mask_C k) k word_mask_sig Tryz.f84 word_mask_code (word_mask_ac k) s = (word_mask_te k).F s := by kernel_rfl
theorem word_mask_ok (k : Nat) : CallOk Tryz.prog 84 (word_mask_te k) :=
  fn_ok (C := word_mask_C k) (code := word_mask_code) (g := word_mask_sig) (k := k) (Fn := (word_mask_te k).F) mixed (tysOk _ _ _) (eqsOk _ _ _) (word_mask_tab k) Tryz.func84 (by kernel_rfl) (by kernel_rfl) (of_decide_eq_true (by kernel_rfl)) (by kernel_rfl) (by kernel_rfl) (by kernel_rfl)
    (fun s q h => ⟨word_mask_ac k, ok_of_fix _ _ (word_mask_fix k), (word_mask_eq k s).trans h⟩)

/-! #### bodega/word.SplitLease -/
noncomputable def word_SplitLease_J1 (k : Nat) (l_0 : Int) (inc_2 : Int) (until_3 : Int) (n_5 : Int) (t_11 : Bool) : Option ((Int × Int × Int × Unit)) :=
  bif t_11 then
    Option.bind (word_mask k (32:Int)) fun r1 =>
    some (l_0, (IntKind.i64.wrap n_5), (IntKind.i64.wrap (iand .u64 l_0 r1.1)), ())
  else
    some (l_0, inc_2, until_3, ())
noncomputable def word_SplitLease (k : Nat) (l_0 : Int) : Option (Int × Int × Bool × Unit) :=
  Option.bind (word_SplitLease_J1 k l_0 (0:Int) (0:Int) (ishr .u64 l_0 (32:Int)) (decide ((ishr .u64 l_0 (32:Int)) ≤ (59:Int)))) fun o2 =>
  Option.bind (word_Lease k o2.2.1 o2.2.2.1) fun r3 =>
  bif (bif (!(decide (r3.2.1 = (0:Int)))) then true else (!(decide (r3.1 = o2.1)))) then
    some ((0:Int), (0:Int), false, ())
  else
    some (o2.2.1, o2.2.2.1, true, ())
def word_SplitLease_sig : Sig := ⟨[⟨false, (.int .u64), .s, .s⟩], [((.int .i64), .s), ((.int .i64), .s), (.bool, .s)]⟩
noncomputable def word_SplitLease_te (k : Nat) : TE := ⟨word_SplitLease_sig, fun s => word_SplitLease k s.1⟩
noncomputable def word_SplitLease_C (k : Nat) : Ctx := cx [(27, word_Lease_te k), (84, word_mask_te k)] [] []
noncomputable def word_SplitLease_code : Code := Tryz.f55.body.getD .skip
theorem word_SplitLease_tab (k : Nat) : TabOk Tryz.prog (word_SplitLease_C k) := ⟨tab_cons (word_Lease_ok k) (tab_cons (word_mask_ok k) (tab_nil)), lay_nil⟩
noncomputable def word_SplitLease_ac (k : Nat) : AC := (.sq .rg (.sq (.sq .rg (.sq .rg (.sm [(0, .va (.int .u64) .s), (2, .va (.int .i64) .s), (3, .va (.int .i64) .s), (5, .va (.int .u64) .s), (11, .va .bool .s)] [(.normal, [(0, .va (.int .u64) .s), (2, .va (.int .i64) .s), (3, .va (.int .i64) .s)])] (fun s => word_SplitLease_J1 k s.1 s.2.1 s.2.2.1 s.2.2.2.1 s.2.2.2.2.1) (.cd .rg .nx)))) (.sq (.sq .rg (.sq .rg (.cd (.sq .rg .nx) .nx))) (.sq .rg .nx))))
theorem word_SplitLease_fix (k : Nat) : acFix (word_SplitLease_C k) k 33 (word_SplitLease_ac k) word_SplitLease_code = word_SplitLease_ac k := by kernel_rfl
theorem word_SplitLease_eq (k : Nat) (s : word_SplitLease_sig.S) : fnEv (word_SplitLease_C k) k word_SplitLease_sig Tryz.f55 word_SplitLease_code (word_SplitLease_ac k) s = (word_SplitLease_te k).F s := by kernel_rfl
theorem word_SplitLease_ok (k : Nat) : CallOk Tryz.prog 55 (word_SplitLease_te k) :=
  fn_ok (C := word_SplitLease_C k) (code := word_SplitLease_code) (g := word_SplitLease_sig) (k := k) (Fn := (word_SplitLease_te k).F) mixed (tysOk _ _ _) (eqsOk _ _ _) (word_SplitLease_tab k) Tryz.func55 (by kernel_rfl) (by kernel_rfl) (of_decide_eq_true (by kernel_rfl)) (by kernel_rfl) (by kernel_rfl) (by kernel_rfl)
    (fun s q h => ⟨word_SplitLease_ac k, ok_of_fix _ _ (word_SplitLease_fix k), (word_SplitLease_eq k s).trans h⟩)

end Go.Proofs.YtkgjdglkkoabmaaGreat.N
