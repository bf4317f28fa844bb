import Derived.Test.YtjbnedjlcpdekaaN0

set_option maxRecDepth 1000000
namespace Go.Proofs.Ytjbnedjlcpdekaa.N
open Go.VL Go.Proofs

/-! #### bodega/bodegahand.Pick -/
noncomputable def bodegahand_Pick (_k : Nat) (n_0 : Int) (t_1 : Int) : Option (Int × Unit) :=
  bif (decide (t_1 < (1:Int))) then
    some ((0:Int), ())
  else
    bif (!decide (t_1 = 0)) then
      bif (!decide (t_1 = 0)) then
        some ((Int.tmod (IntKind.i64.wrap ((Int.tmod n_0 t_1) + t_1)) t_1), ())
      else none
    else none
def bodegahand_Pick_sig : Sig := ⟨[⟨false, (.int .i64), .s, .s⟩, ⟨false, (.int .i64), .s, .s⟩], [((.int .i64), .s)]⟩
noncomputable def bodegahand_Pick_te (k : Nat) : TE := ⟨bodegahand_Pick_sig, fun s => bodegahand_Pick k s.1 s.2.1⟩
noncomputable def bodegahand_Pick_C (_k : Nat) : Ctx := cx []
noncomputable def bodegahand_Pick_code : Code := Try.f10.body.getD .skip
theorem bodegahand_Pick_tab (k : Nat) : ∀ f te, (bodegahand_Pick_C k).tab f = some te → CallOk Try.prog f te := tab_nil
noncomputable def bodegahand_Pick_ac (_k : Nat) : AC := (.sq .rg (.sq (.sq .rg (.cd (.sq .rg .nx) .nx)) (.sq .rg .nx)))
theorem bodegahand_Pick_fix (k : Nat) : acFix (bodegahand_Pick_C k) k 14 (bodegahand_Pick_ac k) bodegahand_Pick_code = bodegahand_Pick_ac k := by kernel_rfl
theorem bodegahand_Pick_eq (k : Nat) (s : bodegahand_Pick_sig.S) : fnEv (bodegahand_Pick_C k) k bodegahand_Pick_sig Try.f10 bodegahand_Pick_code (bodegahand_Pick_ac k) s = (bodegahand_Pick_te k).F s := by kernel_rfl
theorem bodegahand_Pick_ok (k : Nat) : CallOk Try.prog 10 (bodegahand_Pick_te k) :=
  fn_ok (C := bodegahand_Pick_C k) (code := bodegahand_Pick_code) (g := bodegahand_Pick_sig) (k := k) (Fn := (bodegahand_Pick_te k).F) mixed (tysOk _) (eqsOk _) (bodegahand_Pick_tab k) Try.func10 (by kernel_rfl) (by kernel_rfl) (of_decide_eq_true (by kernel_rfl)) (by kernel_rfl)
    (fun s q h => ⟨bodegahand_Pick_ac k, ok_of_fix _ _ (bodegahand_Pick_fix k), (bodegahand_Pick_eq k s).trans h⟩)

/-! #### bodega/bodegahand.View -/
noncomputable def bodegahand_View_J1 (k : Nat) (mask_1 : Int) (full_2 : Int) (boots_3 : (List Int)) (nodes_4 : Int) (t_10 : TView) (v_11 : TView) (any_12 : Bool) (i_13 : Int) (m_14 : TMember) (t_42 : Bool) : Option ((Int × Int × (List Int) × Int × TView × TView × Bool × Int × TMember × Unit)) :=
  bif t_42 then
    bif (decide ((0:Int) ≤ i_13) && decide (i_13 < (boots_3.length : Int))) then
      Option.bind (bodegahand_Pick k (boots_3.getD (i_13.toNat) (0:Int)) (31:Int)) fun r4 =>
      some (mask_1, full_2, boots_3, nodes_4, t_10, v_11, any_12, i_13, (m_14.1, (IntKind.i64.wrap (r4.1 + (1:Int))), m_14.2.2), ())
    else none
  else
    some (mask_1, full_2, boots_3, nodes_4, t_10, v_11, any_12, i_13, m_14, ())
noncomputable def bodegahand_View_L1 (k : Nat) (mask_1 : Int) (full_2 : Int) (boots_3 : (List Int)) (nodes_4 : Int) (t_10 : TView) (v_11 : TView) (any_12 : Bool) (i_13 : Int) : Option ((Int × Int × (List Int) × Int × TView × TView × Bool × Int × Unit) ⊕ ((TView × TView × Bool × Unit))) :=
  bif (decide (i_13 < nodes_4)) then
    Option.bind (bodegahand_Pick k mask_1 (32:Int)) fun r2 =>
    bif (decide ((0:Int) ≤ (IntKind.u64.wrap i_13))) then
      bif (decide ((iand .i64 (ishr .i64 r2.1 (IntKind.u64.wrap i_13)) (1:Int)) = (0:Int))) then
        some (.inl (mask_1, full_2, boots_3, nodes_4, t_10, v_11, any_12, (IntKind.i64.wrap (i_13 + (1:Int))), ()))
      else
        Option.bind (bodegahand_Pick k full_2 (32:Int)) fun r3 =>
        bif (decide ((0:Int) ≤ (IntKind.u64.wrap i_13))) then
          Option.bind (bodegahand_View_J1 k mask_1 full_2 boots_3 nodes_4 t_10 v_11 any_12 i_13 (i_13, (1:Int), (decide ((iand .i64 (ishr .i64 r3.1 (IntKind.u64.wrap i_13)) (1:Int)) = (1:Int))), ()) (decide (i_13 < (boots_3.length : Int)))) fun o5 =>
          bif (decide (o5.2.2.2.2.2.1.2.1.length + [o5.2.2.2.2.2.2.2.2.1].length < 1073741824)) then
            some (.inl (o5.1, o5.2.1, o5.2.2.1, o5.2.2.2.1, o5.2.2.2.2.1, (o5.2.2.2.2.2.1.1, (o5.2.2.2.2.2.1.2.1 ++ [o5.2.2.2.2.2.2.2.2.1]), o5.2.2.2.2.2.1.2.2), (bif o5.2.2.2.2.2.2.1 then true else o5.2.2.2.2.2.2.2.2.1.2.2.1), (IntKind.i64.wrap (o5.2.2.2.2.2.2.2.1 + (1:Int))), ()))
          else none
        else none
    else none
  else
    some (.inr (t_10, v_11, any_12, ()))
noncomputable def bodegahand_View_L1_it (k : Nat) (mask_1 : Int) (full_2 : Int) (boots_3 : (List Int)) (nodes_4 : Int) (t_10 : TView) (v_11 : TView) (any_12 : Bool) (i_13 : Int) : Option ((TView × TView × Bool × Unit)) :=
  iterO (fun s : Int × Int × (List Int) × Int × TView × TView × Bool × Int × Unit => bodegahand_View_L1 k s.1 s.2.1 s.2.2.1 s.2.2.2.1 s.2.2.2.2.1 s.2.2.2.2.2.1 s.2.2.2.2.2.2.1 s.2.2.2.2.2.2.2.1) k (mask_1, full_2, boots_3, nodes_4, t_10, v_11, any_12, i_13, ())
noncomputable def bodegahand_View_J2 (_k : Nat) (t_10 : TView) (v_11 : TView) (any_12 : Bool) (t_64 : Bool) : Option ((TView × TView × Bool × Unit)) :=
  bif t_64 then
    some (t_10, (v_11.1, [((0:Int), (1:Int), false, ())], v_11.2.2), any_12, ())
  else
    some (t_10, v_11, any_12, ())
noncomputable def bodegahand_View (k : Nat) (number_0 : Int) (mask_1 : Int) (full_2 : Int) (boots_3 : (List Int)) (nodes_4 : Int) : Option (TView × Unit) :=
  Option.bind (bodegahand_Pick k number_0 (16:Int)) fun r1 =>
  Option.bind (bodegahand_View_L1_it k mask_1 full_2 boots_3 nodes_4 ((0:Int), ([] : (List TMember)), ()) (r1.1, ([] : (List TMember)), ()) false (0:Int)) fun o6 =>
  Option.bind (bodegahand_View_J2 k o6.1 o6.2.1 o6.2.2.1 (decide ((o6.2.1.2.1.length : Int) = (0:Int)))) fun o7 =>
  bif (!o7.2.2.1) then
    bif (decide ((0:Int) ≤ (0:Int)) && decide ((0:Int) < (o7.2.1.2.1.length : Int))) then
      some ((o7.2.1.1, (o7.2.1.2.1.set 0 ((o7.2.1.2.1.getD 0 ((0:Int), (0:Int), false, ())).1, (o7.2.1.2.1.getD 0 ((0:Int), (0:Int), false, ())).2.1, true, (o7.2.1.2.1.getD 0 ((0:Int), (0:Int), false, ())).2.2.2)), o7.2.1.2.2), ())
    else none
  else
    some (o7.2.1, ())
def bodegahand_View_sig : Sig := ⟨[⟨false, (.int .i64), .s, .s⟩, ⟨false, (.int .i64), .s, .s⟩, ⟨false, (.int .i64), .s, .s⟩, ⟨false, (.list (.int .i64)), .s, .s⟩, ⟨false, (.int .i64), .s, .s⟩], [((.pair (.int .i64) (.pair (.list (.pair (.int .i64) (.pair (.int .i64) (.pair .bool .unit)))) .unit)), (.p .s (.p (.o .s) .s)))]⟩
noncomputable def bodegahand_View_te (k : Nat) : TE := ⟨bodegahand_View_sig, fun s => bodegahand_View k s.1 s.2.1 s.2.2.1 s.2.2.2.1 s.2.2.2.2.1⟩
noncomputable def bodegahand_View_C (k : Nat) : Ctx := cx [(10, bodegahand_Pick_te k)]
noncomputable def bodegahand_View_code : Code := Try.f34.body.getD .skip
theorem bodegahand_View_tab (k : Nat) : ∀ f te, (bodegahand_View_C k).tab f = some te → CallOk Try.prog f te := tab_cons (bodegahand_Pick_ok k) (tab_nil)
noncomputable def bodegahand_View_ac (k : Nat) : AC := (.sq .rg (.sq .rg (.sq .rg (.sq (.sq .rg (.bk (.lp [(1, .va (.int .i64) .s), (2, .va (.int .i64) .s), (3, .va (.list (.int .i64)) .s), (4, .va (.int .i64) .s), (10, .bo (.pair (.int .i64) (.pair (.list (.pair (.int .i64) (.pair (.int .i64) (.pair .bool .unit)))) .unit)) (.p .s (.p (.o .s) .s))), (11, .bo (.pair (.int .i64) (.pair (.list (.pair (.int .i64) (.pair (.int .i64) (.pair .bool .unit)))) .unit)) (.p .s (.p (.o .s) .s))), (12, .va .bool .s), (13, .va (.int .i64) .s)] [(.exit 0, [(10, .bo (.pair (.int .i64) (.pair (.list (.pair (.int .i64) (.pair (.int .i64) (.pair .bool .unit)))) .unit)) (.p .s (.p (.o .s) .s))), (11, .bo (.pair (.int .i64) (.pair (.list (.pair (.int .i64) (.pair (.int .i64) (.pair .bool .unit)))) .unit)) (.p .s (.p (.o .s) .s))), (12, .va .bool .s)])] (fun s => bodegahand_View_L1 k s.1 s.2.1 s.2.2.1 s.2.2.2.1 s.2.2.2.2.1 s.2.2.2.2.2.1 s.2.2.2.2.2.2.1 s.2.2.2.2.2.2.2.1) (.sq (.sq .rg (.cd .nx .nx)) (.sq (.bk (.sq (.sq .rg (.cd .nx .nx)) (.sq .rg (.sq (.sq .rg (.sm [(1, .va (.int .i64) .s), (2, .va (.int .i64) .s), (3, .va (.list (.int .i64)) .s), (4, .va (.int .i64) .s), (10, .bo (.pair (.int .i64) (.pair (.list (.pair (.int .i64) (.pair (.int .i64) (.pair .bool .unit)))) .unit)) (.p .s (.p (.o .s) .s))), (11, .bo (.pair (.int .i64) (.pair (.list (.pair (.int .i64) (.pair (.int .i64) (.pair .bool .unit)))) .unit)) (.p .s (.p (.o .s) .s))), (12, .va .bool .s), (13, .va (.int .i64) .s), (14, .bo (.pair (.int .i64) (.pair (.int .i64) (.pair .bool .unit))) .s), (42, .va .bool .s)] [(.normal, [(1, .va (.int .i64) .s), (2, .va (.int .i64) .s), (3, .va (.list (.int .i64)) .s), (4, .va (.int .i64) .s), (10, .bo (.pair (.int .i64) (.pair (.list (.pair (.int .i64) (.pair (.int .i64) (.pair .bool .unit)))) .unit)) (.p .s (.p (.o .s) .s))), (11, .bo (.pair (.int .i64) (.pair (.list (.pair (.int .i64) (.pair (.int .i64) (.pair .bool .unit)))) .unit)) (.p .s (.p (.o .s) .s))), (12, .va .bool .s), (13, .va (.int .i64) .s), (14, .bo (.pair (.int .i64) (.pair (.int .i64) (.pair .bool .unit))) .s)])] (fun s => bodegahand_View_J1 k s.1 s.2.1 s.2.2.1 s.2.2.2.1 s.2.2.2.2.1 s.2.2.2.2.2.1 s.2.2.2.2.2.2.1 s.2.2.2.2.2.2.2.1 s.2.2.2.2.2.2.2.2.1 s.2.2.2.2.2.2.2.2.2.1) (.cd .rg .nx))) (.sq .rg .rg))))) .rg))))) (.sq (.sq .rg (.sm [(10, .bo (.pair (.int .i64) (.pair (.list (.pair (.int .i64) (.pair (.int .i64) (.pair .bool .unit)))) .unit)) (.p .s (.p (.o .s) .s))), (11, .bo (.pair (.int .i64) (.pair (.list (.pair (.int .i64) (.pair (.int .i64) (.pair .bool .unit)))) .unit)) (.p .s (.p (.o .s) .s))), (12, .va .bool .s), (64, .va .bool .s)] [(.normal, [(10, .bo (.pair (.int .i64) (.pair (.list (.pair (.int .i64) (.pair (.int .i64) (.pair .bool .unit)))) .unit)) (.p .s (.p (.o .s) .s))), (11, .bo (.pair (.int .i64) (.pair (.list (.pair (.int .i64) (.pair (.int .i64) (.pair .bool .unit)))) .unit)) (.p .s (.p (.o .s) .s))), (12, .va .bool .s)])] (fun s => bodegahand_View_J2 k s.1 s.2.1 s.2.2.1 s.2.2.2.1) (.cd .rg .nx))) (.sq (.sq .rg (.cd .rg .nx)) (.sq .rg .nx)))))))
theorem bodegahand_View_fix (k : Nat) : acFix (bodegahand_View_C k) k 75 (bodegahand_View_ac k) bodegahand_View_code = bodegahand_View_ac k := by kernel_rfl
theorem bodegahand_View_eq (k : Nat) (s : bodegahand_View_sig.S) : fnEv (bodegahand_View_C k) k bodegahand_View_sig Try.f34 bodegahand_View_code (bodegahand_View_ac k) s = (bodegahand_View_te k).F s := by kernel_rfl
theorem bodegahand_View_ok (k : Nat) : CallOk Try.prog 34 (bodegahand_View_te k) :=
  fn_ok (C := bodegahand_View_C k) (code := bodegahand_View_code) (g := bodegahand_View_sig) (k := k) (Fn := (bodegahand_View_te k).F) mixed (tysOk _) (eqsOk _) (bodegahand_View_tab k) Try.func34 (by kernel_rfl) (by kernel_rfl) (of_decide_eq_true (by kernel_rfl)) (by kernel_rfl)
    (fun s q h => ⟨bodegahand_View_ac k, ok_of_fix _ _ (bodegahand_View_fix k), (bodegahand_View_eq k s).trans h⟩)

/-! #### bodega/bodegalaw10.of -/
noncomputable def bodegalaw10_of_L1 (_k : Nat) (t_2 : TView) (v_3 : TView) (i_5 : Int) : Option ((TView × TView × Int × Unit) ⊕ ((TView × TView × Unit))) :=
  bif (decide (i_5 < (v_3.2.1.length : Int))) then
    bif (decide ((0:Int) ≤ i_5) && decide (i_5 < (v_3.2.1.length : Int))) then
      some (.inl (t_2, (v_3.1, (v_3.2.1.set (i_5.toNat) ((v_3.2.1.getD (i_5.toNat) ((0:Int), (0:Int), false, ())).1, (v_3.2.1.getD (i_5.toNat) ((0:Int), (0:Int), false, ())).2.1, false, (v_3.2.1.getD (i_5.toNat) ((0:Int), (0:Int), false, ())).2.2.2)), v_3.2.2), (IntKind.i64.wrap (i_5 + (1:Int))), ()))
    else none
  else
    some (.inr (t_2, v_3, ()))
noncomputable def bodegalaw10_of_L1_it (k : Nat) (t_2 : TView) (v_3 : TView) (i_5 : Int) : Option ((TView × TView × Unit)) :=
  iterO (fun s : TView × TView × Int × Unit => bodegalaw10_of_L1 k s.1 s.2.1 s.2.2.1) k (t_2, v_3, i_5, ())
noncomputable def bodegalaw10_of (k : Nat) (r_0 : TRaw) : Option (TView × Unit) :=
  Option.bind (bodegahand_View k r_0.1 r_0.2.1 r_0.2.2.1 r_0.2.2.2.2.2.1 (5:Int)) fun r1 =>
  Option.bind (bodegahand_Pick k r_0.2.2.2.2.1 (r1.1.2.1.length : Int)) fun r2 =>
  bif (decide ((0:Int) ≤ r2.1) && decide (r2.1 < (r1.1.2.1.length : Int))) then
    Option.bind (bodegahand_Pick k r_0.2.2.2.1 (16:Int)) fun r3 =>
    bif (decide (r3.1 = (0:Int))) then
      Option.bind (bodegahand_Pick k r_0.2.2.2.2.1 (20:Int)) fun r4 =>
      some (((IntKind.i64.wrap (r4.1 - (2:Int))), r1.1.2), ())
    else
      bif (decide (r3.1 = (1:Int))) then
        Option.bind (bodegahand_Pick k r_0.2.2.2.2.1 (8:Int)) fun r5 =>
        some ((r1.1.1, (r1.1.2.1.set (r2.1.toNat) ((IntKind.i64.wrap (r5.1 - (2:Int))), (r1.1.2.1.getD (r2.1.toNat) ((0:Int), (0:Int), false, ())).2)), r1.1.2.2), ())
      else
        bif (decide (r3.1 = (2:Int))) then
          Option.bind (bodegahand_Pick k r_0.2.2.2.2.1 (36:Int)) fun r6 =>
          some ((r1.1.1, (r1.1.2.1.set (r2.1.toNat) ((r1.1.2.1.getD (r2.1.toNat) ((0:Int), (0:Int), false, ())).1, (IntKind.i64.wrap (r6.1 - (2:Int))), (r1.1.2.1.getD (r2.1.toNat) ((0:Int), (0:Int), false, ())).2.2)), r1.1.2.2), ())
        else
          bif (decide (r3.1 = (3:Int))) then
            Option.bind (bodegalaw10_of_L1_it k ((0:Int), ([] : (List TMember)), ()) r1.1 (0:Int)) fun o7 =>
            some (o7.2.1, ())
          else
            bif (decide (r3.1 = (4:Int))) then
              some ((r1.1.1, ([] : (List TMember)), r1.1.2.2), ())
            else
              some (r1.1, ())
  else none
def bodegalaw10_of_sig : Sig := ⟨[⟨false, (.pair (.int .i64) (.pair (.int .i64) (.pair (.int .i64) (.pair (.int .i64) (.pair (.int .i64) (.pair (.list (.int .i64)) .unit)))))), .s, .s⟩], [((.pair (.int .i64) (.pair (.list (.pair (.int .i64) (.pair (.int .i64) (.pair .bool .unit)))) .unit)), (.p .s (.p (.o .s) .s)))]⟩
noncomputable def bodegalaw10_of_te (k : Nat) : TE := ⟨bodegalaw10_of_sig, fun s => bodegalaw10_of k s.1⟩
noncomputable def bodegalaw10_of_C (k : Nat) : Ctx := cx [(10, bodegahand_Pick_te k), (34, bodegahand_View_te k)]
noncomputable def bodegalaw10_of_code : Code := Try.f9.body.getD .skip
theorem bodegalaw10_of_tab (k : Nat) : ∀ f te, (bodegalaw10_of_C k).tab f = some te → CallOk Try.prog f te := tab_cons (bodegahand_Pick_ok k) (tab_cons (bodegahand_View_ok k) (tab_nil))
noncomputable def bodegalaw10_of_ac (k : Nat) : AC := (.sq .rg (.sq .rg (.sq .rg (.sq (.sq .rg (.bk (.sq .rg (.cd .rg (.sq .rg (.cd .rg (.sq .rg (.cd .rg (.sq .rg (.cd (.sq .rg (.bk (.lp [(2, .bo (.pair (.int .i64) (.pair (.list (.pair (.int .i64) (.pair (.int .i64) (.pair .bool .unit)))) .unit)) (.p .s (.p (.o .s) .s))), (3, .bo (.pair (.int .i64) (.pair (.list (.pair (.int .i64) (.pair (.int .i64) (.pair .bool .unit)))) .unit)) (.p .s (.p (.o .s) .s))), (5, .va (.int .i64) .s)] [(.exit 1, [(2, .bo (.pair (.int .i64) (.pair (.list (.pair (.int .i64) (.pair (.int .i64) (.pair .bool .unit)))) .unit)) (.p .s (.p (.o .s) .s))), (3, .bo (.pair (.int .i64) (.pair (.list (.pair (.int .i64) (.pair (.int .i64) (.pair .bool .unit)))) .unit)) (.p .s (.p (.o .s) .s)))])] (fun s => bodegalaw10_of_L1 k s.1 s.2.1 s.2.2.1) (.sq (.sq .rg (.cd .nx .nx)) (.sq (.bk .rg) .rg))))) (.sq .rg (.cd .rg .nx)))))))))))) (.sq .rg .nx)))))
theorem bodegalaw10_of_fix (k : Nat) : acFix (bodegalaw10_of_C k) k 70 (bodegalaw10_of_ac k) bodegalaw10_of_code = bodegalaw10_of_ac k := by kernel_rfl
theorem bodegalaw10_of_eq (k : Nat) (s : bodegalaw10_of_sig.S) : fnEv (bodegalaw10_of_C k) k bodegalaw10_of_sig Try.f9 bodegalaw10_of_code (bodegalaw10_of_ac k) s = (bodegalaw10_of_te k).F s := by kernel_rfl
theorem bodegalaw10_of_ok (k : Nat) : CallOk Try.prog 9 (bodegalaw10_of_te k) :=
  fn_ok (C := bodegalaw10_of_C k) (code := bodegalaw10_of_code) (g := bodegalaw10_of_sig) (k := k) (Fn := (bodegalaw10_of_te k).F) mixed (tysOk _) (eqsOk _) (bodegalaw10_of_tab k) Try.func9 (by kernel_rfl) (by kernel_rfl) (of_decide_eq_true (by kernel_rfl)) (by kernel_rfl)
    (fun s q h => ⟨bodegalaw10_of_ac k, ok_of_fix _ _ (bodegalaw10_of_fix k), (bodegalaw10_of_eq k s).trans h⟩)

/-! #### bodega/view.isNodes -/
noncomputable def view_isNodes (_k : Nat) (nodes_0 : Int) : Option (Bool × Unit) :=
  some ((bif (decide ((1:Int) ≤ nodes_0)) then (decide (nodes_0 ≤ (5:Int))) else false), ())
def view_isNodes_sig : Sig := ⟨[⟨false, (.int .i64), .s, .s⟩], [(.bool, .s)]⟩
noncomputable def view_isNodes_te (k : Nat) : TE := ⟨view_isNodes_sig, fun s => view_isNodes k s.1⟩
noncomputable def view_isNodes_C (_k : Nat) : Ctx := cx []
noncomputable def view_isNodes_code : Code := Try.f35.body.getD .skip
theorem view_isNodes_tab (k : Nat) : ∀ f te, (view_isNodes_C k).tab f = some te → CallOk Try.prog f te := tab_nil
noncomputable def view_isNodes_ac (_k : Nat) : AC := (.sq .rg (.sq .rg .nx))
theorem view_isNodes_fix (k : Nat) : acFix (view_isNodes_C k) k 9 (view_isNodes_ac k) view_isNodes_code = view_isNodes_ac k := by kernel_rfl
theorem view_isNodes_eq (k : Nat) (s : view_isNodes_sig.S) : fnEv (view_isNodes_C k) k view_isNodes_sig Try.f35 view_isNodes_code (view_isNodes_ac k) s = (view_isNodes_te k).F s := by kernel_rfl
theorem view_isNodes_ok (k : Nat) : CallOk Try.prog 35 (view_isNodes_te k) :=
  fn_ok (C := view_isNodes_C k) (code := view_isNodes_code) (g := view_isNodes_sig) (k := k) (Fn := (view_isNodes_te k).F) mixed (tysOk _) (eqsOk _) (view_isNodes_tab k) Try.func35 (by kernel_rfl) (by kernel_rfl) (of_decide_eq_true (by kernel_rfl)) (by kernel_rfl)
    (fun s q h => ⟨view_isNodes_ac k, ok_of_fix _ _ (view_isNodes_fix k), (view_isNodes_eq k s).trans h⟩)

/-! #### bodega/view.isFull -/
noncomputable def view_isFull (_k : Nat) (m_0 : TMember) : Option (Bool × Unit) :=
  some (m_0.2.2.1, ())
def view_isFull_sig : Sig := ⟨[⟨false, (.pair (.int .i64) (.pair (.int .i64) (.pair .bool .unit))), .s, .s⟩], [(.bool, .s)]⟩
noncomputable def view_isFull_te (k : Nat) : TE := ⟨view_isFull_sig, fun s => view_isFull k s.1⟩
noncomputable def view_isFull_C (_k : Nat) : Ctx := cx []
noncomputable def view_isFull_code : Code := Try.f37.body.getD .skip
theorem view_isFull_tab (k : Nat) : ∀ f te, (view_isFull_C k).tab f = some te → CallOk Try.prog f te := tab_nil
noncomputable def view_isFull_ac (_k : Nat) : AC := (.sq .rg (.sq .rg .nx))
theorem view_isFull_fix (k : Nat) : acFix (view_isFull_C k) k 5 (view_isFull_ac k) view_isFull_code = view_isFull_ac k := by kernel_rfl
theorem view_isFull_eq (k : Nat) (s : view_isFull_sig.S) : fnEv (view_isFull_C k) k view_isFull_sig Try.f37 view_isFull_code (view_isFull_ac k) s = (view_isFull_te k).F s := by kernel_rfl
theorem view_isFull_ok (k : Nat) : CallOk Try.prog 37 (view_isFull_te k) :=
  fn_ok (C := view_isFull_C k) (code := view_isFull_code) (g := view_isFull_sig) (k := k) (Fn := (view_isFull_te k).F) mixed (tysOk _) (eqsOk _) (view_isFull_tab k) Try.func37 (by kernel_rfl) (by kernel_rfl) (of_decide_eq_true (by kernel_rfl)) (by kernel_rfl)
    (fun s q h => ⟨view_isFull_ac k, ok_of_fix _ _ (view_isFull_fix k), (view_isFull_eq k s).trans h⟩)

/-! #### slices.IndexFunc(()bodega/api.Member,bodega/api.Member) -/
noncomputable def slices_IndexFunc_isFull_L1 (k : Nat) (t_0 : (List TMember)) (_f_1 : Unit) (t_7 : Int) (t_8 : Int) : Option (((List TMember) × Unit × Int × Int × Unit) ⊕ ((Int × Unit) ⊕ (Unit))) :=
  bif (decide (t_8 < t_7)) then
    bif (decide ((0:Int) ≤ t_8) && decide (t_8 < (t_0.length : Int))) then
      Option.bind (view_isFull k (t_0.getD (t_8.toNat) ((0:Int), (0:Int), false, ()))) fun r1 =>
      bif r1.1 then
        some (.inr (.inl (t_8, ())))
      else
        some (.inl (t_0, (), t_7, (IntKind.i64.wrap (t_8 + (1:Int))), ()))
    else none
  else
    some (.inr (.inr ()))
noncomputable def slices_IndexFunc_isFull_L1_it (k : Nat) (t_0 : (List TMember)) (f_1 : Unit) (t_7 : Int) (t_8 : Int) : Option ((Int × Unit) ⊕ (Unit)) :=
  iterO (fun s : (List TMember) × Unit × Int × Int × Unit => slices_IndexFunc_isFull_L1 k s.1 s.2.1 s.2.2.1 s.2.2.2.1) k (t_0, f_1, t_7, t_8, ())
noncomputable def slices_IndexFunc_isFull (k : Nat) (t_0 : (List TMember)) : Option (Int × Unit) :=
  Option.bind (slices_IndexFunc_isFull_L1_it k t_0 () (t_0.length : Int) (0:Int)) fun o2 =>
  Sum.elim (fun o3 =>
    some (o3.1, ())) (fun _o4 =>
    some ((-1:Int), ())) o2
def slices_IndexFunc_sig : Sig := ⟨[⟨false, (.list (.pair (.int .i64) (.pair (.int .i64) (.pair .bool .unit)))), .s, .s⟩, ⟨false, .fn, .s, .s⟩], [((.int .i64), .s)]⟩
noncomputable def slices_IndexFunc_te (k : Nat) : TE := ⟨slices_IndexFunc_sig, fun s => match s.2.1 with | some n => (match Nat.beq n 37 with | true => slices_IndexFunc_isFull k s.1 | false => none) | none => none⟩
noncomputable def slices_IndexFunc_C (k : Nat) : Ctx := cx [(37, view_isFull_te k)]
noncomputable def slices_IndexFunc_code : Code := Try.f45.body.getD .skip
theorem slices_IndexFunc_tab (k : Nat) : ∀ f te, (slices_IndexFunc_C k).tab f = some te → CallOk Try.prog f te := tab_cons (view_isFull_ok k) (tab_nil)
noncomputable def slices_IndexFunc_isFull_ac (k : Nat) : AC := (.sq .rg (.sq (.sq .rg (.bk (.lp [(0, .va (.list (.pair (.int .i64) (.pair (.int .i64) (.pair .bool .unit)))) .s), (1, .fu 37), (7, .va (.int .i64) .s), (8, .va (.int .i64) .s)] [(.ret, [(4, .va (.int .i64) .s)]), (.exit 0, [])] (fun s => slices_IndexFunc_isFull_L1 k s.1 s.2.1 s.2.2.1 s.2.2.2.1) (.sq .rg (.sq (.cd .nx .nx) (.sq (.bk (.sq .rg (.sq .rg (.cd (.sq .rg .nx) .nx)))) .rg)))))) (.sq .rg .nx)))
theorem slices_IndexFunc_isFull_fix (k : Nat) : acFix (slices_IndexFunc_C k) k 19 (slices_IndexFunc_isFull_ac k) slices_IndexFunc_code = slices_IndexFunc_isFull_ac k := by kernel_rfl
theorem slices_IndexFunc_isFull_eq (k : Nat) (x0 : (List TMember)) : fnEv (slices_IndexFunc_C k) k slices_IndexFunc_sig Try.f45 slices_IndexFunc_code (slices_IndexFunc_isFull_ac k) (x0, (some 37), ()) = slices_IndexFunc_isFull k x0 := by kernel_rfl
theorem slices_IndexFunc_ok (k : Nat) : CallOk Try.prog 45 (slices_IndexFunc_te k) :=
  fn_ok (C := slices_IndexFunc_C k) (code := slices_IndexFunc_code) (g := slices_IndexFunc_sig) (k := k) (Fn := (slices_IndexFunc_te k).F) mixed (tysOk _) (eqsOk _) (slices_IndexFunc_tab k) Try.func45 (by kernel_rfl) (by kernel_rfl) (of_decide_eq_true (by kernel_rfl)) (by kernel_rfl)
    (by
      rintro ⟨x0, x1, u⟩ q h
      cases u
      cases x1 with
      | none => cases h
      | some n =>
        by_cases hn : n = 37
        · subst hn; exact ⟨slices_IndexFunc_isFull_ac k, ok_of_fix _ _ (slices_IndexFunc_isFull_fix k), (slices_IndexFunc_isFull_eq k x0).trans h⟩
        have hb37 : Nat.beq n 37 = false := by cases hq : Nat.beq n 37 with | false => rfl | true => exact absurd (Nat.eq_of_beq_eq_true hq) hn
        simp [slices_IndexFunc_te, hb37] at h)

/-! #### slices.ContainsFunc(()bodega/api.Member,bodega/api.Member) -/
noncomputable def slices_ContainsFunc_isFull (k : Nat) (t_0 : (List TMember)) : Option (Bool × Unit) :=
  Option.bind (slices_IndexFunc_isFull k t_0) fun r1 =>
  some ((decide ((0:Int) ≤ r1.1)), ())
def slices_ContainsFunc_sig : Sig := ⟨[⟨false, (.list (.pair (.int .i64) (.pair (.int .i64) (.pair .bool .unit)))), .s, .s⟩, ⟨false, .fn, .s, .s⟩], [(.bool, .s)]⟩
noncomputable def slices_ContainsFunc_te (k : Nat) : TE := ⟨slices_ContainsFunc_sig, fun s => match s.2.1 with | some n => (match Nat.beq n 37 with | true => slices_ContainsFunc_isFull k s.1 | false => none) | none => none⟩
noncomputable def slices_ContainsFunc_C (k : Nat) : Ctx := cx [(45, slices_IndexFunc_te k)]
noncomputable def slices_ContainsFunc_code : Code := Try.f36.body.getD .skip
theorem slices_ContainsFunc_tab (k : Nat) : ∀ f te, (slices_ContainsFunc_C k).tab f = some te → CallOk Try.prog f te := tab_cons (slices_IndexFunc_ok k) (tab_nil)
noncomputable def slices_ContainsFunc_isFull_ac (_k : Nat) : AC := (.sq .rg (.sq .rg .nx))
theorem slices_ContainsFunc_isFull_fix (k : Nat) : acFix (slices_ContainsFunc_C k) k 9 (slices_ContainsFunc_isFull_ac k) slices_ContainsFunc_code = slices_ContainsFunc_isFull_ac k := by kernel_rfl
theorem slices_ContainsFunc_isFull_eq (k : Nat) (x0 : (List TMember)) : fnEv (slices_ContainsFunc_C k) k slices_ContainsFunc_sig Try.f36 slices_ContainsFunc_code (slices_ContainsFunc_isFull_ac k) (x0, (some 37), ()) = slices_ContainsFunc_isFull k x0 := by kernel_rfl
theorem slices_ContainsFunc_ok (k : Nat) : CallOk Try.prog 36 (slices_ContainsFunc_te k) :=
  fn_ok (C := slices_ContainsFunc_C k) (code := slices_ContainsFunc_code) (g := slices_ContainsFunc_sig) (k := k) (Fn := (slices_ContainsFunc_te k).F) mixed (tysOk _) (eqsOk _) (slices_ContainsFunc_tab k) Try.func36 (by kernel_rfl) (by kernel_rfl) (of_decide_eq_true (by kernel_rfl)) (by kernel_rfl)
    (by
      rintro ⟨x0, x1, u⟩ q h
      cases u
      cases x1 with
      | none => cases h
      | some n =>
        by_cases hn : n = 37
        · subst hn; exact ⟨slices_ContainsFunc_isFull_ac k, ok_of_fix _ _ (slices_ContainsFunc_isFull_fix k), (slices_ContainsFunc_isFull_eq k x0).trans h⟩
        have hb37 : Nat.beq n 37 = false := by cases hq : Nat.beq n 37 with | false => rfl | true => exact absurd (Nat.eq_of_beq_eq_true hq) hn
        simp [slices_ContainsFunc_te, hb37] at h)

/-! #### bodega/view.Valid -/
noncomputable def view_Valid_L1 (_k : Nat) (nodes_1 : Int) (v_2 : TView) (t_28 : (List TMember)) (t_29 : Int) (t_30 : Int) : Option ((Int × TView × (List TMember) × Int × Int × Unit) ⊕ ((Int × Unit) ⊕ (TView × Unit))) :=
  bif (decide (t_30 < t_29)) then
    bif (decide ((0:Int) ≤ t_30) && decide (t_30 < (t_28.length : Int))) then
      bif ((decide ((0:Int) ≤ (IntKind.i64.wrap (t_30 - (1:Int)))) && decide ((IntKind.i64.wrap (t_30 - (1:Int))) < (v_2.2.1.length : Int))) || (!((decide ((0:Int) < t_30)) && (!(bif (decide ((t_28.getD (t_30.toNat) ((0:Int), (0:Int), false, ())).1 < (0:Int))) then true else (decide (nodes_1 ≤ (t_28.getD (t_30.toNat) ((0:Int), (0:Int), false, ())).1))))))) then
        bif (bif (bif (decide ((t_28.getD (t_30.toNat) ((0:Int), (0:Int), false, ())).1 < (0:Int))) then true else (decide (nodes_1 ≤ (t_28.getD (t_30.toNat) ((0:Int), (0:Int), false, ())).1))) then true else (bif (decide ((0:Int) < t_30)) then (decide ((t_28.getD (t_30.toNat) ((0:Int), (0:Int), false, ())).1 ≤ (v_2.2.1.getD ((IntKind.i64.wrap (t_30 - (1:Int))).toNat) ((0:Int), (0:Int), false, ())).1)) else false)) then
          some (.inr (.inl ((1:Int), ())))
        else
          some (.inl (nodes_1, v_2, t_28, t_29, (IntKind.i64.wrap (t_30 + (1:Int))), ()))
      else none
    else none
  else
    some (.inr (.inr (v_2, ())))
noncomputable def view_Valid_L1_it (k : Nat) (nodes_1 : Int) (v_2 : TView) (t_28 : (List TMember)) (t_29 : Int) (t_30 : Int) : Option ((Int × Unit) ⊕ (TView × Unit)) :=
  iterO (fun s : Int × TView × (List TMember) × Int × Int × Unit => view_Valid_L1 k s.1 s.2.1 s.2.2.1 s.2.2.2.1 s.2.2.2.2.1) k (nodes_1, v_2, t_28, t_29, t_30, ())
noncomputable def view_Valid_L2 (_k : Nat) (v_2 : TView) (t_62 : (List TMember)) (t_63 : Int) (t_64 : Int) : Option ((TView × (List TMember) × Int × Int × Unit) ⊕ ((Int × Unit) ⊕ (TView × Unit))) :=
  bif (decide (t_64 < t_63)) then
    bif (decide ((0:Int) ≤ t_64) && decide (t_64 < (t_62.length : Int))) then
      bif (bif (decide ((t_62.getD (t_64.toNat) ((0:Int), (0:Int), false, ())).2.1 < (1:Int))) then true else (decide ((31:Int) < (t_62.getD (t_64.toNat) ((0:Int), (0:Int), false, ())).2.1))) then
        some (.inr (.inl ((2:Int), ())))
      else
        some (.inl (v_2, t_62, t_63, (IntKind.i64.wrap (t_64 + (1:Int))), ()))
    else none
  else
    some (.inr (.inr (v_2, ())))
noncomputable def view_Valid_L2_it (k : Nat) (v_2 : TView) (t_62 : (List TMember)) (t_63 : Int) (t_64 : Int) : Option ((Int × Unit) ⊕ (TView × Unit)) :=
  iterO (fun s : TView × (List TMember) × Int × Int × Unit => view_Valid_L2 k s.1 s.2.1 s.2.2.1 s.2.2.2.1) k (v_2, t_62, t_63, t_64, ())
noncomputable def view_Valid (k : Nat) (v_0 : TView) (nodes_1 : Int) : Option (Int × Unit) :=
  Option.bind (view_isNodes k nodes_1) fun r1 =>
  bif (!r1.1) then
    some ((1:Int), ())
  else
    bif (bif (decide (v_0.1 < (0:Int))) then true else (decide ((16:Int) ≤ v_0.1))) then
      some ((2:Int), ())
    else
      bif (decide ((v_0.2.1.length : Int) = (0:Int))) then
        some ((1:Int), ())
      else
        Option.bind (view_Valid_L1_it k nodes_1 v_0 v_0.2.1 (v_0.2.1.length : Int) (0:Int)) fun o2 =>
        Sum.elim (fun o3 =>
          some (o3.1, ())) (fun o4 =>
          Option.bind (view_Valid_L2_it k o4.1 o4.1.2.1 (o4.1.2.1.length : Int) (0:Int)) fun o5 =>
          Sum.elim (fun o6 =>
            some (o6.1, ())) (fun o7 =>
            Option.bind (slices_ContainsFunc_isFull k o7.1.2.1) fun r8 =>
            bif (!r8.1) then
              some ((13:Int), ())
            else
              some ((0:Int), ())) o5) o2
def view_Valid_sig : Sig := ⟨[⟨false, (.pair (.int .i64) (.pair (.list (.pair (.int .i64) (.pair (.int .i64) (.pair .bool .unit)))) .unit)), .s, .s⟩, ⟨false, (.int .i64), .s, .s⟩], [((.int .i64), .s)]⟩
noncomputable def view_Valid_te (k : Nat) : TE := ⟨view_Valid_sig, fun s => view_Valid k s.1 s.2.1⟩
noncomputable def view_Valid_C (k : Nat) : Ctx := cx [(35, view_isNodes_te k), (36, slices_ContainsFunc_te k)]
noncomputable def view_Valid_code : Code := Try.f19.body.getD .skip
theorem view_Valid_tab (k : Nat) : ∀ f te, (view_Valid_C k).tab f = some te → CallOk Try.prog f te := tab_cons (view_isNodes_ok k) (tab_cons (slices_ContainsFunc_ok k) (tab_nil))
noncomputable def view_Valid_ac (k : Nat) : AC := (.sq .rg (.sq (.bk (.sq .rg (.cd (.sq .rg .nx) (.sq .rg (.cd (.sq .rg .nx) (.sq .rg (.cd (.sq .rg .nx) .nx))))))) (.sq (.sq .rg (.bk (.lp [(1, .va (.int .i64) .s), (2, .bo (.pair (.int .i64) (.pair (.list (.pair (.int .i64) (.pair (.int .i64) (.pair .bool .unit)))) .unit)) .s), (28, .va (.list (.pair (.int .i64) (.pair (.int .i64) (.pair .bool .unit)))) .s), (29, .va (.int .i64) .s), (30, .va (.int .i64) .s)] [(.ret, [(4, .va (.int .i64) .s)]), (.exit 1, [(2, .bo (.pair (.int .i64) (.pair (.list (.pair (.int .i64) (.pair (.int .i64) (.pair .bool .unit)))) .unit)) .s)])] (fun s => view_Valid_L1 k s.1 s.2.1 s.2.2.1 s.2.2.2.1 s.2.2.2.2.1) (.sq .rg (.sq (.cd .nx .nx) (.sq (.bk (.sq .rg (.sq .rg (.cd (.sq .rg .nx) .nx)))) .rg)))))) (.sq (.sq .rg (.bk (.lp [(2, .bo (.pair (.int .i64) (.pair (.list (.pair (.int .i64) (.pair (.int .i64) (.pair .bool .unit)))) .unit)) .s), (62, .va (.list (.pair (.int .i64) (.pair (.int .i64) (.pair .bool .unit)))) .s), (63, .va (.int .i64) .s), (64, .va (.int .i64) .s)] [(.ret, [(4, .va (.int .i64) .s)]), (.exit 3, [(2, .bo (.pair (.int .i64) (.pair (.list (.pair (.int .i64) (.pair (.int .i64) (.pair .bool .unit)))) .unit)) .s)])] (fun s => view_Valid_L2 k s.1 s.2.1 s.2.2.1 s.2.2.2.1) (.sq .rg (.sq (.cd .nx .nx) (.sq (.bk (.sq .rg (.sq .rg (.cd (.sq .rg .nx) .nx)))) .rg)))))) (.sq (.sq .rg (.cd (.sq .rg .nx) .nx)) (.sq .rg .nx))))))
theorem view_Valid_fix (k : Nat) : acFix (view_Valid_C k) k 81 (view_Valid_ac k) view_Valid_code = view_Valid_ac k := by kernel_rfl
theorem view_Valid_eq (k : Nat) (s : view_Valid_sig.S) : fnEv (view_Valid_C k) k view_Valid_sig Try.f19 view_Valid_code (view_Valid_ac k) s = (view_Valid_te k).F s := by kernel_rfl
theorem view_Valid_ok (k : Nat) : CallOk Try.prog 19 (view_Valid_te k) :=
  fn_ok (C := view_Valid_C k) (code := view_Valid_code) (g := view_Valid_sig) (k := k) (Fn := (view_Valid_te k).F) mixed (tysOk _) (eqsOk _) (view_Valid_tab k) Try.func19 (by kernel_rfl) (by kernel_rfl) (of_decide_eq_true (by kernel_rfl)) (by kernel_rfl)
    (fun s q h => ⟨view_Valid_ac k, ok_of_fix _ _ (view_Valid_fix k), (view_Valid_eq k s).trans h⟩)

/-! #### bodega/view.Value -/
noncomputable def view_Value_J1 (_k : Nat) (value_5 : Int) (m_7 : TMember) (bits_8 : Int) (t_15 : (List TMember)) (t_16 : Int) (t_17 : Int) (t_27 : Bool) : Option ((Int × TMember × Int × (List TMember) × Int × Int × Unit)) :=
  bif t_27 then
    some (value_5, m_7, (ior .u64 bits_8 (2:Int)), t_15, t_16, t_17, ())
  else
    some (value_5, m_7, bits_8, t_15, t_16, t_17, ())
noncomputable def view_Value_L1 (k : Nat) (value_5 : Int) (t_15 : (List TMember)) (t_16 : Int) (t_17 : Int) : Option ((Int × (List TMember) × Int × Int × Unit) ⊕ ((Int × Unit))) :=
  bif (decide (t_17 < t_16)) then
    bif (decide ((0:Int) ≤ t_17) && decide (t_17 < (t_15.length : Int))) then
      Option.bind (view_Value_J1 k value_5 (t_15.getD (t_17.toNat) ((0:Int), (0:Int), false, ())) (IntKind.u64.wrap (ior .i64 (ishl .i64 (t_15.getD (t_17.toNat) ((0:Int), (0:Int), false, ())).2.1 (2:Int)) (1:Int))) t_15 t_16 t_17 (t_15.getD (t_17.toNat) ((0:Int), (0:Int), false, ())).2.2.1) fun o2 =>
      bif (decide ((0:Int) ≤ (IntKind.u64.wrap (IntKind.i64.wrap ((7:Int) * o2.2.1.1))))) then
        some (.inl ((ior .u64 o2.1 (ishl .u64 o2.2.2.1 (IntKind.u64.wrap (IntKind.i64.wrap ((7:Int) * o2.2.1.1))))), o2.2.2.2.1, o2.2.2.2.2.1, (IntKind.i64.wrap (o2.2.2.2.2.2.1 + (1:Int))), ()))
      else none
    else none
  else
    some (.inr (value_5, ()))
noncomputable def view_Value_L1_it (k : Nat) (value_5 : Int) (t_15 : (List TMember)) (t_16 : Int) (t_17 : Int) : Option ((Int × Unit)) :=
  iterO (fun s : Int × (List TMember) × Int × Int × Unit => view_Value_L1 k s.1 s.2.1 s.2.2.1 s.2.2.2.1) k (value_5, t_15, t_16, t_17, ())
noncomputable def view_Value (k : Nat) (v_0 : TView) : Option (Int × Int × Unit) :=
  Option.bind (view_Valid k v_0 (5:Int)) fun r1 =>
  bif (!(decide (r1.1 = (0:Int)))) then
    some ((0:Int), r1.1, ())
  else
    Option.bind (view_Value_L1_it k (549755813888:Int) v_0.2.1 (v_0.2.1.length : Int) (0:Int)) fun o3 =>
    some (o3.1, (0:Int), ())
def view_Value_sig : Sig := ⟨[⟨false, (.pair (.int .i64) (.pair (.list (.pair (.int .i64) (.pair (.int .i64) (.pair .bool .unit)))) .unit)), .s, .s⟩], [((.int .u64), .s), ((.int .i64), .s)]⟩
noncomputable def view_Value_te (k : Nat) : TE := ⟨view_Value_sig, fun s => view_Value k s.1⟩
noncomputable def view_Value_C (k : Nat) : Ctx := cx [(19, view_Valid_te k)]
noncomputable def view_Value_code : Code := Try.f11.body.getD .skip
theorem view_Value_tab (k : Nat) : ∀ f te, (view_Value_C k).tab f = some te → CallOk Try.prog f te := tab_cons (view_Valid_ok k) (tab_nil)
noncomputable def view_Value_ac (k : Nat) : AC := (.sq .rg (.sq (.sq .rg (.sq .rg (.cd (.sq .rg .nx) .nx))) (.sq .rg (.sq (.sq .rg (.bk (.lp [(5, .va (.int .u64) .s), (15, .va (.list (.pair (.int .i64) (.pair (.int .i64) (.pair .bool .unit)))) .s), (16, .va (.int .i64) .s), (17, .va (.int .i64) .s)] [(.exit 0, [(5, .va (.int .u64) .s)])] (fun s => view_Value_L1 k s.1 s.2.1 s.2.2.1 s.2.2.2.1) (.sq .rg (.sq (.cd .nx .nx) (.sq (.bk (.sq .rg (.sq .rg (.sq (.sq .rg (.sm [(5, .va (.int .u64) .s), (7, .bo (.pair (.int .i64) (.pair (.int .i64) (.pair .bool .unit))) .s), (8, .va (.int .u64) .s), (15, .va (.list (.pair (.int .i64) (.pair (.int .i64) (.pair .bool .unit)))) .s), (16, .va (.int .i64) .s), (17, .va (.int .i64) .s), (27, .va .bool .s)] [(.normal, [(5, .va (.int .u64) .s), (7, .bo (.pair (.int .i64) (.pair (.int .i64) (.pair .bool .unit))) .s), (8, .va (.int .u64) .s), (15, .va (.list (.pair (.int .i64) (.pair (.int .i64) (.pair .bool .unit)))) .s), (16, .va (.int .i64) .s), (17, .va (.int .i64) .s)])] (fun s => view_Value_J1 k s.1 s.2.1 s.2.2.1 s.2.2.2.1 s.2.2.2.2.1 s.2.2.2.2.2.1 s.2.2.2.2.2.2.1) (.cd .rg .nx))) .rg)))) .rg)))))) (.sq .rg .nx)))))
theorem view_Value_fix (k : Nat) : acFix (view_Value_C k) k 40 (view_Value_ac k) view_Value_code = view_Value_ac k := by kernel_rfl
theorem view_Value_eq (k : Nat) (s : view_Value_sig.S) : fnEv (view_Value_C k) k view_Value_sig Try.f11 view_Value_code (view_Value_ac k) s = (view_Value_te k).F s := by kernel_rfl
theorem view_Value_ok (k : Nat) : CallOk Try.prog 11 (view_Value_te k) :=
  fn_ok (C := view_Value_C k) (code := view_Value_code) (g := view_Value_sig) (k := k) (Fn := (view_Value_te k).F) mixed (tysOk _) (eqsOk _) (view_Value_tab k) Try.func11 (by kernel_rfl) (by kernel_rfl) (of_decide_eq_true (by kernel_rfl)) (by kernel_rfl)
    (fun s q h => ⟨view_Value_ac k, ok_of_fix _ _ (view_Value_fix k), (view_Value_eq k s).trans h⟩)

/-! #### bodega/bodegaref9.Full -/
noncomputable def bodegaref9_Full_L1 (_k : Nat) (v_1 : TView) (l_3 : (List TMember)) (i_4 : Int) : Option ((TView × (List TMember) × Int × Unit) ⊕ (((List TMember) × Unit))) :=
  bif (decide (i_4 < (v_1.2.1.length : Int))) then
    bif (decide ((0:Int) ≤ i_4) && decide (i_4 < (v_1.2.1.length : Int))) then
      bif (v_1.2.1.getD (i_4.toNat) ((0:Int), (0:Int), false, ())).2.2.1 then
        bif (decide ((0:Int) ≤ i_4) && decide (i_4 < (v_1.2.1.length : Int))) then
          bif (decide (l_3.length + [(v_1.2.1.getD (i_4.toNat) ((0:Int), (0:Int), false, ()))].length < 1073741824)) then
            some (.inl (v_1, (l_3 ++ [(v_1.2.1.getD (i_4.toNat) ((0:Int), (0:Int), false, ()))]), (IntKind.i64.wrap (i_4 + (1:Int))), ()))
          else none
        else none
      else
        some (.inl (v_1, l_3, (IntKind.i64.wrap (i_4 + (1:Int))), ()))
    else none
  else
    some (.inr (l_3, ()))
noncomputable def bodegaref9_Full_L1_it (k : Nat) (v_1 : TView) (l_3 : (List TMember)) (i_4 : Int) : Option (((List TMember) × Unit)) :=
  iterO (fun s : TView × (List TMember) × Int × Unit => bodegaref9_Full_L1 k s.1 s.2.1 s.2.2.1) k (v_1, l_3, i_4, ())
noncomputable def bodegaref9_Full (k : Nat) (v_0 : TView) : Option ((List TMember) × Unit) :=
  Option.bind (bodegaref9_Full_L1_it k v_0 ([] : (List TMember)) (0:Int)) fun o1 =>
  some (o1.1, ())
def bodegaref9_Full_sig : Sig := ⟨[⟨false, (.pair (.int .i64) (.pair (.list (.pair (.int .i64) (.pair (.int .i64) (.pair .bool .unit)))) .unit)), .s, .s⟩], [((.list (.pair (.int .i64) (.pair (.int .i64) (.pair .bool .unit)))), (.o .s))]⟩
noncomputable def bodegaref9_Full_te (k : Nat) : TE := ⟨bodegaref9_Full_sig, fun s => bodegaref9_Full k s.1⟩
noncomputable def bodegaref9_Full_C (_k : Nat) : Ctx := cx []
noncomputable def bodegaref9_Full_code : Code := Try.f30.body.getD .skip
theorem bodegaref9_Full_tab (k : Nat) : ∀ f te, (bodegaref9_Full_C k).tab f = some te → CallOk Try.prog f te := tab_nil
noncomputable def bodegaref9_Full_ac (k : Nat) : AC := (.sq .rg (.sq .rg (.sq (.sq .rg (.bk (.lp [(1, .bo (.pair (.int .i64) (.pair (.list (.pair (.int .i64) (.pair (.int .i64) (.pair .bool .unit)))) .unit)) .s), (3, .va (.list (.pair (.int .i64) (.pair (.int .i64) (.pair .bool .unit)))) (.o .s)), (4, .va (.int .i64) .s)] [(.exit 0, [(3, .va (.list (.pair (.int .i64) (.pair (.int .i64) (.pair .bool .unit)))) (.o .s))])] (fun s => bodegaref9_Full_L1 k s.1 s.2.1 s.2.2.1) (.sq (.sq .rg (.cd .nx .nx)) (.sq (.bk (.sq .rg (.cd .rg .nx))) .rg))))) (.sq .rg .nx))))
theorem bodegaref9_Full_fix (k : Nat) : acFix (bodegaref9_Full_C k) k 27 (bodegaref9_Full_ac k) bodegaref9_Full_code = bodegaref9_Full_ac k := by kernel_rfl
theorem bodegaref9_Full_eq (k : Nat) (s : bodegaref9_Full_sig.S) : fnEv (bodegaref9_Full_C k) k bodegaref9_Full_sig Try.f30 bodegaref9_Full_code (bodegaref9_Full_ac k) s = (bodegaref9_Full_te k).F s := by kernel_rfl
theorem bodegaref9_Full_ok (k : Nat) : CallOk Try.prog 30 (bodegaref9_Full_te k) :=
  fn_ok (C := bodegaref9_Full_C k) (code := bodegaref9_Full_code) (g := bodegaref9_Full_sig) (k := k) (Fn := (bodegaref9_Full_te k).F) mixed (tysOk _) (eqsOk _) (bodegaref9_Full_tab k) Try.func30 (by kernel_rfl) (by kernel_rfl) (of_decide_eq_true (by kernel_rfl)) (by kernel_rfl)
    (fun s q h => ⟨bodegaref9_Full_ac k, ok_of_fix _ _ (bodegaref9_Full_fix k), (bodegaref9_Full_eq k s).trans h⟩)

/-! #### bodega/bodegaref9.ValidView -/
noncomputable def bodegaref9_ValidView_L1 (_k : Nat) (nodes_1 : Int) (v_2 : TView) (i_5 : Int) : Option ((Int × TView × Int × Unit) ⊕ ((Int × Unit) ⊕ (TView × Unit))) :=
  bif (decide (i_5 < (v_2.2.1.length : Int))) then
    bif (decide ((0:Int) ≤ i_5) && decide (i_5 < (v_2.2.1.length : Int))) then
      bif ((decide ((0:Int) ≤ (IntKind.i64.wrap (i_5 - (1:Int)))) && decide ((IntKind.i64.wrap (i_5 - (1:Int))) < (v_2.2.1.length : Int))) || (!((decide ((0:Int) < i_5)) && (!(bif (decide ((v_2.2.1.getD (i_5.toNat) ((0:Int), (0:Int), false, ())).1 < (0:Int))) then true else (decide (nodes_1 ≤ (v_2.2.1.getD (i_5.toNat) ((0:Int), (0:Int), false, ())).1))))))) then
        bif (bif (bif (decide ((v_2.2.1.getD (i_5.toNat) ((0:Int), (0:Int), false, ())).1 < (0:Int))) then true else (decide (nodes_1 ≤ (v_2.2.1.getD (i_5.toNat) ((0:Int), (0:Int), false, ())).1))) then true else (bif (decide ((0:Int) < i_5)) then (decide ((v_2.2.1.getD (i_5.toNat) ((0:Int), (0:Int), false, ())).1 ≤ (v_2.2.1.getD ((IntKind.i64.wrap (i_5 - (1:Int))).toNat) ((0:Int), (0:Int), false, ())).1)) else false)) then
          some (.inr (.inl ((1:Int), ())))
        else
          some (.inl (nodes_1, v_2, (IntKind.i64.wrap (i_5 + (1:Int))), ()))
      else none
    else none
  else
    some (.inr (.inr (v_2, ())))
noncomputable def bodegaref9_ValidView_L1_it (k : Nat) (nodes_1 : Int) (v_2 : TView) (i_5 : Int) : Option ((Int × Unit) ⊕ (TView × Unit)) :=
  iterO (fun s : Int × TView × Int × Unit => bodegaref9_ValidView_L1 k s.1 s.2.1 s.2.2.1) k (nodes_1, v_2, i_5, ())
noncomputable def bodegaref9_ValidView_L2 (_k : Nat) (v_2 : TView) (i_7 : Int) : Option ((TView × Int × Unit) ⊕ ((Int × Unit) ⊕ (TView × Unit))) :=
  bif (decide (i_7 < (v_2.2.1.length : Int))) then
    bif (decide ((0:Int) ≤ i_7) && decide (i_7 < (v_2.2.1.length : Int))) then
      bif (bif (decide ((v_2.2.1.getD (i_7.toNat) ((0:Int), (0:Int), false, ())).2.1 < (1:Int))) then true else (decide ((31:Int) < (v_2.2.1.getD (i_7.toNat) ((0:Int), (0:Int), false, ())).2.1))) then
        some (.inr (.inl ((2:Int), ())))
      else
        some (.inl (v_2, (IntKind.i64.wrap (i_7 + (1:Int))), ()))
    else none
  else
    some (.inr (.inr (v_2, ())))
noncomputable def bodegaref9_ValidView_L2_it (k : Nat) (v_2 : TView) (i_7 : Int) : Option ((Int × Unit) ⊕ (TView × Unit)) :=
  iterO (fun s : TView × Int × Unit => bodegaref9_ValidView_L2 k s.1 s.2.1) k (v_2, i_7, ())
noncomputable def bodegaref9_ValidView (k : Nat) (v_0 : TView) (nodes_1 : Int) : Option (Int × Unit) :=
  bif (bif (decide (nodes_1 < (1:Int))) then true else (decide ((5:Int) < nodes_1))) then
    some ((1:Int), ())
  else
    bif (bif (decide (v_0.1 < (0:Int))) then true else (decide ((16:Int) ≤ v_0.1))) then
      some ((2:Int), ())
    else
      Option.bind (bodegaref9_ValidView_L1_it k nodes_1 v_0 (0:Int)) fun o1 =>
      Sum.elim (fun o2 =>
        some (o2.1, ())) (fun o3 =>
        bif (decide ((o3.1.2.1.length : Int) = (0:Int))) then
          some ((1:Int), ())
        else
          Option.bind (bodegaref9_ValidView_L2_it k o3.1 (0:Int)) fun o4 =>
          Sum.elim (fun o5 =>
            some (o5.1, ())) (fun o6 =>
            Option.bind (bodegaref9_Full k o6.1) fun r7 =>
            bif (decide ((r7.1.length : Int) = (0:Int))) then
              some ((13:Int), ())
            else
              some ((0:Int), ())) o4) o1
def bodegaref9_ValidView_sig : Sig := ⟨[⟨false, (.pair (.int .i64) (.pair (.list (.pair (.int .i64) (.pair (.int .i64) (.pair .bool .unit)))) .unit)), .s, .s⟩, ⟨false, (.int .i64), .s, .s⟩], [((.int .i64), .s)]⟩
noncomputable def bodegaref9_ValidView_te (k : Nat) : TE := ⟨bodegaref9_ValidView_sig, fun s => bodegaref9_ValidView k s.1 s.2.1⟩
noncomputable def bodegaref9_ValidView_C (k : Nat) : Ctx := cx [(30, bodegaref9_Full_te k)]
noncomputable def bodegaref9_ValidView_code : Code := Try.f20.body.getD .skip
theorem bodegaref9_ValidView_tab (k : Nat) : ∀ f te, (bodegaref9_ValidView_C k).tab f = some te → CallOk Try.prog f te := tab_cons (bodegaref9_Full_ok k) (tab_nil)
noncomputable def bodegaref9_ValidView_ac (k : Nat) : AC := (.sq .rg (.sq (.sq .rg (.cd (.sq .rg .nx) .nx)) (.sq (.sq .rg (.cd (.sq .rg .nx) .nx)) (.sq (.sq .rg (.bk (.lp [(1, .va (.int .i64) .s), (2, .bo (.pair (.int .i64) (.pair (.list (.pair (.int .i64) (.pair (.int .i64) (.pair .bool .unit)))) .unit)) .s), (5, .va (.int .i64) .s)] [(.ret, [(4, .va (.int .i64) .s)]), (.exit 0, [(2, .bo (.pair (.int .i64) (.pair (.list (.pair (.int .i64) (.pair (.int .i64) (.pair .bool .unit)))) .unit)) .s)])] (fun s => bodegaref9_ValidView_L1 k s.1 s.2.1 s.2.2.1) (.sq (.sq .rg (.cd .nx .nx)) (.sq (.bk (.sq .rg (.sq .rg (.cd (.sq .rg .nx) .nx)))) .rg))))) (.sq (.sq .rg (.cd (.sq .rg .nx) .nx)) (.sq (.sq .rg (.bk (.lp [(2, .bo (.pair (.int .i64) (.pair (.list (.pair (.int .i64) (.pair (.int .i64) (.pair .bool .unit)))) .unit)) .s), (7, .va (.int .i64) .s)] [(.ret, [(4, .va (.int .i64) .s)]), (.exit 2, [(2, .bo (.pair (.int .i64) (.pair (.list (.pair (.int .i64) (.pair (.int .i64) (.pair .bool .unit)))) .unit)) .s)])] (fun s => bodegaref9_ValidView_L2 k s.1 s.2.1) (.sq (.sq .rg (.cd .nx .nx)) (.sq (.bk (.sq .rg (.sq .rg (.cd (.sq .rg .nx) .nx)))) .rg))))) (.sq (.sq .rg (.cd (.sq .rg .nx) .nx)) (.sq .rg .nx))))))))
theorem bodegaref9_ValidView_fix (k : Nat) : acFix (bodegaref9_ValidView_C k) k 85 (bodegaref9_ValidView_ac k) bodegaref9_ValidView_code = bodegaref9_ValidView_ac k := by kernel_rfl
theorem bodegaref9_ValidView_eq (k : Nat) (s : bodegaref9_ValidView_sig.S) : fnEv (bodegaref9_ValidView_C k) k bodegaref9_ValidView_sig Try.f20 bodegaref9_ValidView_code (bodegaref9_ValidView_ac k) s = (bodegaref9_ValidView_te k).F s := by kernel_rfl
theorem bodegaref9_ValidView_ok (k : Nat) : CallOk Try.prog 20 (bodegaref9_ValidView_te k) :=
  fn_ok (C := bodegaref9_ValidView_C k) (code := bodegaref9_ValidView_code) (g := bodegaref9_ValidView_sig) (k := k) (Fn := (bodegaref9_ValidView_te k).F) mixed (tysOk _) (eqsOk _) (bodegaref9_ValidView_tab k) Try.func20 (by kernel_rfl) (by kernel_rfl) (of_decide_eq_true (by kernel_rfl)) (by kernel_rfl)
    (fun s q h => ⟨bodegaref9_ValidView_ac k, ok_of_fix _ _ (bodegaref9_ValidView_fix k), (bodegaref9_ValidView_eq k s).trans h⟩)

/-! #### bodega/bodegaref9.Value -/
noncomputable def bodegaref9_Value_J1 (_k : Nat) (v_1 : TView) (w_5 : Int) (i_6 : Int) (m_7 : TMember) (x_8 : Int) (t_32 : Bool) : Option ((TView × Int × Int × TMember × Int × Unit)) :=
  bif t_32 then
    some (v_1, w_5, i_6, m_7, (ior .u64 x_8 (2:Int)), ())
  else
    some (v_1, w_5, i_6, m_7, x_8, ())
noncomputable def bodegaref9_Value_L1 (k : Nat) (v_1 : TView) (w_5 : Int) (i_6 : Int) : Option ((TView × Int × Int × Unit) ⊕ ((Int × Unit))) :=
  bif (decide (i_6 < (v_1.2.1.length : Int))) then
    bif (decide ((0:Int) ≤ i_6) && decide (i_6 < (v_1.2.1.length : Int))) then
      Option.bind (bodegaref9_Value_J1 k v_1 w_5 i_6 (v_1.2.1.getD (i_6.toNat) ((0:Int), (0:Int), false, ())) (ior .u64 (1:Int) (ishl .u64 (IntKind.u64.wrap (v_1.2.1.getD (i_6.toNat) ((0:Int), (0:Int), false, ())).2.1) (2:Int))) (v_1.2.1.getD (i_6.toNat) ((0:Int), (0:Int), false, ())).2.2.1) fun o2 =>
      bif (decide ((0:Int) ≤ (IntKind.u64.wrap (IntKind.i64.wrap ((7:Int) * o2.2.2.2.1.1))))) then
        some (.inl (o2.1, (ior .u64 o2.2.1 (ishl .u64 o2.2.2.2.2.1 (IntKind.u64.wrap (IntKind.i64.wrap ((7:Int) * o2.2.2.2.1.1))))), (IntKind.i64.wrap (o2.2.2.1 + (1:Int))), ()))
      else none
    else none
  else
    some (.inr (w_5, ()))
noncomputable def bodegaref9_Value_L1_it (k : Nat) (v_1 : TView) (w_5 : Int) (i_6 : Int) : Option ((Int × Unit)) :=
  iterO (fun s : TView × Int × Int × Unit => bodegaref9_Value_L1 k s.1 s.2.1 s.2.2.1) k (v_1, w_5, i_6, ())
noncomputable def bodegaref9_Value (k : Nat) (v_0 : TView) : Option (Int × Int × Unit) :=
  Option.bind (bodegaref9_ValidView k v_0 (5:Int)) fun r1 =>
  bif (!(decide (r1.1 = (0:Int)))) then
    some ((0:Int), r1.1, ())
  else
    Option.bind (bodegaref9_Value_L1_it k v_0 (549755813888:Int) (0:Int)) fun o3 =>
    some (o3.1, (0:Int), ())
def bodegaref9_Value_sig : Sig := ⟨[⟨false, (.pair (.int .i64) (.pair (.list (.pair (.int .i64) (.pair (.int .i64) (.pair .bool .unit)))) .unit)), .s, .s⟩], [((.int .u64), .s), ((.int .i64), .s)]⟩
noncomputable def bodegaref9_Value_te (k : Nat) : TE := ⟨bodegaref9_Value_sig, fun s => bodegaref9_Value k s.1⟩
noncomputable def bodegaref9_Value_C (k : Nat) : Ctx := cx [(20, bodegaref9_ValidView_te k)]
noncomputable def bodegaref9_Value_code : Code := Try.f12.body.getD .skip
theorem bodegaref9_Value_tab (k : Nat) : ∀ f te, (bodegaref9_Value_C k).tab f = some te → CallOk Try.prog f te := tab_cons (bodegaref9_ValidView_ok k) (tab_nil)
noncomputable def bodegaref9_Value_ac (k : Nat) : AC := (.sq .rg (.sq (.sq .rg (.sq .rg (.cd (.sq .rg .nx) .nx))) (.sq .rg (.sq (.sq .rg (.bk (.lp [(1, .bo (.pair (.int .i64) (.pair (.list (.pair (.int .i64) (.pair (.int .i64) (.pair .bool .unit)))) .unit)) .s), (5, .va (.int .u64) .s), (6, .va (.int .i64) .s)] [(.exit 0, [(5, .va (.int .u64) .s)])] (fun s => bodegaref9_Value_L1 k s.1 s.2.1 s.2.2.1) (.sq (.sq .rg (.cd .nx .nx)) (.sq (.bk (.sq .rg (.sq .rg (.sq (.sq .rg (.sm [(1, .bo (.pair (.int .i64) (.pair (.list (.pair (.int .i64) (.pair (.int .i64) (.pair .bool .unit)))) .unit)) .s), (5, .va (.int .u64) .s), (6, .va (.int .i64) .s), (7, .bo (.pair (.int .i64) (.pair (.int .i64) (.pair .bool .unit))) .s), (8, .va (.int .u64) .s), (32, .va .bool .s)] [(.normal, [(1, .bo (.pair (.int .i64) (.pair (.list (.pair (.int .i64) (.pair (.int .i64) (.pair .bool .unit)))) .unit)) .s), (5, .va (.int .u64) .s), (6, .va (.int .i64) .s), (7, .bo (.pair (.int .i64) (.pair (.int .i64) (.pair .bool .unit))) .s), (8, .va (.int .u64) .s)])] (fun s => bodegaref9_Value_J1 k s.1 s.2.1 s.2.2.1 s.2.2.2.1 s.2.2.2.2.1 s.2.2.2.2.2.1) (.cd .rg .nx))) .rg)))) .rg))))) (.sq .rg .nx)))))
theorem bodegaref9_Value_fix (k : Nat) : acFix (bodegaref9_Value_C k) k 44 (bodegaref9_Value_ac k) bodegaref9_Value_code = bodegaref9_Value_ac k := by kernel_rfl
theorem bodegaref9_Value_eq (k : Nat) (s : bodegaref9_Value_sig.S) : fnEv (bodegaref9_Value_C k) k bodegaref9_Value_sig Try.f12 bodegaref9_Value_code (bodegaref9_Value_ac k) s = (bodegaref9_Value_te k).F s := by kernel_rfl
theorem bodegaref9_Value_ok (k : Nat) : CallOk Try.prog 12 (bodegaref9_Value_te k) :=
  fn_ok (C := bodegaref9_Value_C k) (code := bodegaref9_Value_code) (g := bodegaref9_Value_sig) (k := k) (Fn := (bodegaref9_Value_te k).F) mixed (tysOk _) (eqsOk _) (bodegaref9_Value_tab k) Try.func12 (by kernel_rfl) (by kernel_rfl) (of_decide_eq_true (by kernel_rfl)) (by kernel_rfl)
    (fun s q h => ⟨bodegaref9_Value_ac k, ok_of_fix _ _ (bodegaref9_Value_fix k), (bodegaref9_Value_eq k s).trans h⟩)

end Go.Proofs.Ytjbnedjlcpdekaa.N
