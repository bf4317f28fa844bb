import Derived.Test.YtjbnedjlcpdekaaN1

set_option maxRecDepth 1000000
namespace Go.Proofs.Ytjbnedjlcpdekaa.N
open Go.VL Go.Proofs

/-! #### bodega/view.Initial -/
noncomputable def view_Initial_L1 (_k : Nat) (t_2 : TView) (v_4 : TView) (t_11 : Int) (t_12 : Int) : Option ((TView × TView × Int × Int × Unit) ⊕ ((TView × TView × Unit))) :=
  bif (decide (t_12 < t_11)) then
    bif (decide (v_4.2.1.length + [(t_12, (1:Int), true, ())].length < 1073741824)) then
      some (.inl (t_2, (v_4.1, (v_4.2.1 ++ [(t_12, (1:Int), true, ())]), v_4.2.2), t_11, (IntKind.i64.wrap (t_12 + (1:Int))), ()))
    else none
  else
    some (.inr (t_2, v_4, ()))
noncomputable def view_Initial_L1_it (k : Nat) (t_2 : TView) (v_4 : TView) (t_11 : Int) (t_12 : Int) : Option ((TView × TView × Unit)) :=
  iterO (fun s : TView × TView × Int × Int × Unit => view_Initial_L1 k s.1 s.2.1 s.2.2.1 s.2.2.2.1) k (t_2, v_4, t_11, t_12, ())
noncomputable def view_Initial (k : Nat) (nodes_0 : Int) : Option (TView × Int × Unit) :=
  Option.bind (view_isNodes k nodes_0) fun r1 =>
  bif (!r1.1) then
    some (((0:Int), ([] : (List TMember)), ()), (1:Int), ())
  else
    Option.bind (view_Initial_L1_it k ((0:Int), ([] : (List TMember)), ()) ((0:Int), ([] : (List TMember)), ()) nodes_0 (0:Int)) fun o2 =>
    some (o2.2.1, (0:Int), ())
def view_Initial_sig : Sig := ⟨[⟨false, (.int .i64), .s, .s⟩], [((.pair (.int .i64) (.pair (.list (.pair (.int .i64) (.pair (.int .i64) (.pair .bool .unit)))) .unit)), (.p .s (.p (.o .s) .s))), ((.int .i64), .s)]⟩
noncomputable def view_Initial_te (k : Nat) : TE := ⟨view_Initial_sig, fun s => view_Initial k s.1⟩
noncomputable def view_Initial_C (k : Nat) : Ctx := cx [(35, view_isNodes_te k)]
noncomputable def view_Initial_code : Code := Try.f16.body.getD .skip
theorem view_Initial_tab (k : Nat) : ∀ f te, (view_Initial_C k).tab f = some te → CallOk Try.prog f te := tab_cons (view_isNodes_ok k) (tab_nil)
noncomputable def view_Initial_ac (k : Nat) : AC := (.sq .rg (.sq (.sq .rg (.cd (.sq .rg .nx) .nx)) (.sq .rg (.sq (.sq .rg (.bk (.lp [(2, .bo (.pair (.int .i64) (.pair (.list (.pair (.int .i64) (.pair (.int .i64) (.pair .bool .unit)))) .unit)) (.p .s (.p (.o .s) .s))), (4, .bo (.pair (.int .i64) (.pair (.list (.pair (.int .i64) (.pair (.int .i64) (.pair .bool .unit)))) .unit)) (.p .s (.p (.o .s) .s))), (11, .va (.int .i64) .s), (12, .va (.int .i64) .s)] [(.exit 0, [(2, .bo (.pair (.int .i64) (.pair (.list (.pair (.int .i64) (.pair (.int .i64) (.pair .bool .unit)))) .unit)) (.p .s (.p (.o .s) .s))), (4, .bo (.pair (.int .i64) (.pair (.list (.pair (.int .i64) (.pair (.int .i64) (.pair .bool .unit)))) .unit)) (.p .s (.p (.o .s) .s)))])] (fun s => view_Initial_L1 k s.1 s.2.1 s.2.2.1 s.2.2.2.1) (.sq .rg (.sq (.cd .nx .nx) (.sq (.bk (.sq .rg .rg)) .rg)))))) (.sq .rg .nx)))))
theorem view_Initial_fix (k : Nat) : acFix (view_Initial_C k) k 24 (view_Initial_ac k) view_Initial_code = view_Initial_ac k := by kernel_rfl
theorem view_Initial_eq (k : Nat) (s : view_Initial_sig.S) : fnEv (view_Initial_C k) k view_Initial_sig Try.f16 view_Initial_code (view_Initial_ac k) s = (view_Initial_te k).F s := by kernel_rfl
theorem view_Initial_ok (k : Nat) : CallOk Try.prog 16 (view_Initial_te k) :=
  fn_ok (C := view_Initial_C k) (code := view_Initial_code) (g := view_Initial_sig) (k := k) (Fn := (view_Initial_te k).F) mixed (tysOk _) (eqsOk _) (view_Initial_tab k) Try.func16 (by kernel_rfl) (by kernel_rfl) (of_decide_eq_true (by kernel_rfl)) (by kernel_rfl)
    (fun s q h => ⟨view_Initial_ac k, ok_of_fix _ _ (view_Initial_fix k), (view_Initial_eq k s).trans h⟩)

/-! #### bodega/view.Primary -/
noncomputable def view_Primary (_k : Nat) (v_0 : TView) : Option (TMember × Bool × Unit) :=
  bif (decide ((v_0.2.1.length : Int) = (0:Int))) then
    some (((0:Int), (0:Int), false, ()), false, ())
  else
    bif (decide ((0:Int) ≤ (0:Int)) && decide ((0:Int) < (v_0.2.1.length : Int))) then
      some ((v_0.2.1.getD 0 ((0:Int), (0:Int), false, ())), true, ())
    else none
def view_Primary_sig : Sig := ⟨[⟨false, (.pair (.int .i64) (.pair (.list (.pair (.int .i64) (.pair (.int .i64) (.pair .bool .unit)))) .unit)), .s, .s⟩], [((.pair (.int .i64) (.pair (.int .i64) (.pair .bool .unit))), .s), (.bool, .s)]⟩
noncomputable def view_Primary_te (k : Nat) : TE := ⟨view_Primary_sig, fun s => view_Primary k s.1⟩
noncomputable def view_Primary_C (_k : Nat) : Ctx := cx []
noncomputable def view_Primary_code : Code := Try.f26.body.getD .skip
theorem view_Primary_tab (k : Nat) : ∀ f te, (view_Primary_C k).tab f = some te → CallOk Try.prog f te := tab_nil
noncomputable def view_Primary_ac (_k : Nat) : AC := (.sq .rg (.sq (.sq .rg (.cd (.sq .rg .nx) .nx)) (.sq .rg .nx)))
theorem view_Primary_fix (k : Nat) : acFix (view_Primary_C k) k 13 (view_Primary_ac k) view_Primary_code = view_Primary_ac k := by kernel_rfl
theorem view_Primary_eq (k : Nat) (s : view_Primary_sig.S) : fnEv (view_Primary_C k) k view_Primary_sig Try.f26 view_Primary_code (view_Primary_ac k) s = (view_Primary_te k).F s := by kernel_rfl
theorem view_Primary_ok (k : Nat) : CallOk Try.prog 26 (view_Primary_te k) :=
  fn_ok (C := view_Primary_C k) (code := view_Primary_code) (g := view_Primary_sig) (k := k) (Fn := (view_Primary_te k).F) mixed (tysOk _) (eqsOk _) (view_Primary_tab k) Try.func26 (by kernel_rfl) (by kernel_rfl) (of_decide_eq_true (by kernel_rfl)) (by kernel_rfl)
    (fun s q h => ⟨view_Primary_ac k, ok_of_fix _ _ (view_Primary_fix k), (view_Primary_eq k s).trans h⟩)

/-! #### bodega/bodegalaw10.awake -/
noncomputable def bodegalaw10_awake (k : Nat)  : Option (Bool × Unit) :=
  Option.bind (view_Initial k (1:Int)) fun r1 =>
  Option.bind (view_Value k r1.1) fun r2 =>
  Option.bind (view_Primary k r1.1) fun r3 =>
  some ((bif (bif (bif (bif (decide (r1.2.1 = (0:Int))) then (decide (r2.2.1 = (0:Int))) else false) then (decide (r2.1 = (549755813895:Int))) else false) then r3.2.1 else false) then ((decide (r3.1.1 = (0:Int))) && ((decide (r3.1.2.1 = (1:Int))) && ((r3.1.2.2.1 == true) && true))) else false), ())
def bodegalaw10_awake_sig : Sig := ⟨[], [(.bool, .s)]⟩
noncomputable def bodegalaw10_awake_te (k : Nat) : TE := ⟨bodegalaw10_awake_sig, fun _s => bodegalaw10_awake k ⟩
noncomputable def bodegalaw10_awake_C (k : Nat) : Ctx := cx [(11, view_Value_te k), (16, view_Initial_te k), (26, view_Primary_te k)]
noncomputable def bodegalaw10_awake_code : Code := Try.f13.body.getD .skip
theorem bodegalaw10_awake_tab (k : Nat) : ∀ f te, (bodegalaw10_awake_C k).tab f = some te → CallOk Try.prog f te := tab_cons (view_Value_ok k) (tab_cons (view_Initial_ok k) (tab_cons (view_Primary_ok k) (tab_nil)))
noncomputable def bodegalaw10_awake_ac (_k : Nat) : AC := (.sq .rg (.sq .rg (.sq .rg (.sq .rg (.sq .rg .nx)))))
theorem bodegalaw10_awake_fix (k : Nat) : acFix (bodegalaw10_awake_C k) k 39 (bodegalaw10_awake_ac k) bodegalaw10_awake_code = bodegalaw10_awake_ac k := by kernel_rfl
theorem bodegalaw10_awake_eq (k : Nat) (s : bodegalaw10_awake_sig.S) : fnEv (bodegalaw10_awake_C k) k bodegalaw10_awake_sig Try.f13 bodegalaw10_awake_code (bodegalaw10_awake_ac k) s = (bodegalaw10_awake_te k).F s := by kernel_rfl
theorem bodegalaw10_awake_ok (k : Nat) : CallOk Try.prog 13 (bodegalaw10_awake_te k) :=
  fn_ok (C := bodegalaw10_awake_C k) (code := bodegalaw10_awake_code) (g := bodegalaw10_awake_sig) (k := k) (Fn := (bodegalaw10_awake_te k).F) mixed (tysOk _) (eqsOk _) (bodegalaw10_awake_tab k) Try.func13 (by kernel_rfl) (by kernel_rfl) (of_decide_eq_true (by kernel_rfl)) (by kernel_rfl)
    (fun s q h => ⟨bodegalaw10_awake_ac k, ok_of_fix _ _ (bodegalaw10_awake_fix k), (bodegalaw10_awake_eq k s).trans h⟩)

/-! #### bodega/view.Parse -/
noncomputable def view_Parse_L1 (_k : Nat) (value_1 : Int) (nodes_2 : Int) (t_6 : TView) (v_8 : TView) (t_15 : Int) : Option ((Int × Int × TView × TView × Int × Unit) ⊕ ((Int × Int × TView × TView × Unit))) :=
  bif (decide (t_15 < (5:Int))) then
    bif (decide ((0:Int) ≤ (IntKind.u64.wrap (IntKind.i64.wrap ((7:Int) * t_15))))) then
      bif (!(decide ((iand .u64 (ishr .u64 value_1 (IntKind.u64.wrap (IntKind.i64.wrap ((7:Int) * t_15)))) (1:Int)) = (0:Int)))) then
        bif (decide (v_8.2.1.length + [(t_15, (IntKind.i64.wrap (iand .u64 (ishr .u64 (ishr .u64 value_1 (IntKind.u64.wrap (IntKind.i64.wrap ((7:Int) * t_15)))) (2:Int)) (31:Int))), (!(decide ((iand .u64 (ishr .u64 value_1 (IntKind.u64.wrap (IntKind.i64.wrap ((7:Int) * t_15)))) (2:Int)) = (0:Int)))), ())].length < 1073741824)) then
          some (.inl (value_1, nodes_2, t_6, (v_8.1, (v_8.2.1 ++ [(t_15, (IntKind.i64.wrap (iand .u64 (ishr .u64 (ishr .u64 value_1 (IntKind.u64.wrap (IntKind.i64.wrap ((7:Int) * t_15)))) (2:Int)) (31:Int))), (!(decide ((iand .u64 (ishr .u64 value_1 (IntKind.u64.wrap (IntKind.i64.wrap ((7:Int) * t_15)))) (2:Int)) = (0:Int)))), ())]), v_8.2.2), (IntKind.i64.wrap (t_15 + (1:Int))), ()))
        else none
      else
        some (.inl (value_1, nodes_2, t_6, v_8, (IntKind.i64.wrap (t_15 + (1:Int))), ()))
    else none
  else
    some (.inr (value_1, nodes_2, t_6, v_8, ()))
noncomputable def view_Parse_L1_it (k : Nat) (value_1 : Int) (nodes_2 : Int) (t_6 : TView) (v_8 : TView) (t_15 : Int) : Option ((Int × Int × TView × TView × Unit)) :=
  iterO (fun s : Int × Int × TView × TView × Int × Unit => view_Parse_L1 k s.1 s.2.1 s.2.2.1 s.2.2.2.1 s.2.2.2.2.1) k (value_1, nodes_2, t_6, v_8, t_15, ())
noncomputable def view_Parse (k : Nat) (number_0 : Int) (value_1 : Int) (nodes_2 : Int) : Option (TView × Int × Unit) :=
  Option.bind (view_Parse_L1_it k value_1 nodes_2 ((0:Int), ([] : (List TMember)), ()) (number_0, ([] : (List TMember)), ()) (0:Int)) fun o1 =>
  Option.bind (view_Value k o1.2.2.2.1) fun r2 =>
  Option.bind (bif (!(bif (!(decide (r2.2.1 = (0:Int)))) then true else (!(decide (r2.1 = o1.1))))) then view_Valid k o1.2.2.2.1 o1.2.1 else some ((0:Int), ())) fun r3 =>
  bif (bif (bif (!(decide (r2.2.1 = (0:Int)))) then true else (!(decide (r2.1 = o1.1)))) then true else (!(decide (r3.1 = (0:Int))))) then
    some (((0:Int), ([] : (List TMember)), ()), (14:Int), ())
  else
    some (o1.2.2.2.1, (0:Int), ())
def view_Parse_sig : Sig := ⟨[⟨false, (.int .i64), .s, .s⟩, ⟨false, (.int .u64), .s, .s⟩, ⟨false, (.int .i64), .s, .s⟩], [((.pair (.int .i64) (.pair (.list (.pair (.int .i64) (.pair (.int .i64) (.pair .bool .unit)))) .unit)), (.p .s (.p (.o .s) .s))), ((.int .i64), .s)]⟩
noncomputable def view_Parse_te (k : Nat) : TE := ⟨view_Parse_sig, fun s => view_Parse k s.1 s.2.1 s.2.2.1⟩
noncomputable def view_Parse_C (k : Nat) : Ctx := cx [(11, view_Value_te k), (19, view_Valid_te k)]
noncomputable def view_Parse_code : Code := Try.f14.body.getD .skip
theorem view_Parse_tab (k : Nat) : ∀ f te, (view_Parse_C k).tab f = some te → CallOk Try.prog f te := tab_cons (view_Value_ok k) (tab_cons (view_Valid_ok k) (tab_nil))
noncomputable def view_Parse_ac (k : Nat) : AC := (.sq .rg (.sq .rg (.sq (.sq .rg (.bk (.lp [(1, .va (.int .u64) .s), (2, .va (.int .i64) .s), (6, .bo (.pair (.int .i64) (.pair (.list (.pair (.int .i64) (.pair (.int .i64) (.pair .bool .unit)))) .unit)) (.p .s (.p (.o .s) .s))), (8, .bo (.pair (.int .i64) (.pair (.list (.pair (.int .i64) (.pair (.int .i64) (.pair .bool .unit)))) .unit)) (.p .s (.p (.o .s) .s))), (15, .va (.int .i64) .s)] [(.exit 0, [(1, .va (.int .u64) .s), (2, .va (.int .i64) .s), (6, .bo (.pair (.int .i64) (.pair (.list (.pair (.int .i64) (.pair (.int .i64) (.pair .bool .unit)))) .unit)) (.p .s (.p (.o .s) .s))), (8, .bo (.pair (.int .i64) (.pair (.list (.pair (.int .i64) (.pair (.int .i64) (.pair .bool .unit)))) .unit)) (.p .s (.p (.o .s) .s)))])] (fun s => view_Parse_L1 k s.1 s.2.1 s.2.2.1 s.2.2.2.1 s.2.2.2.2.1) (.sq .rg (.sq (.cd .nx .nx) (.sq (.bk (.sq .rg (.sq .rg (.sq .rg (.cd .rg .nx))))) .rg)))))) (.sq (.sq .rg (.sq .rg (.cd (.sq .rg .nx) .nx))) (.sq .rg .nx)))))
theorem view_Parse_fix (k : Nat) : acFix (view_Parse_C k) k 61 (view_Parse_ac k) view_Parse_code = view_Parse_ac k := by kernel_rfl
theorem view_Parse_eq (k : Nat) (s : view_Parse_sig.S) : fnEv (view_Parse_C k) k view_Parse_sig Try.f14 view_Parse_code (view_Parse_ac k) s = (view_Parse_te k).F s := by kernel_rfl
theorem view_Parse_ok (k : Nat) : CallOk Try.prog 14 (view_Parse_te k) :=
  fn_ok (C := view_Parse_C k) (code := view_Parse_code) (g := view_Parse_sig) (k := k) (Fn := (view_Parse_te k).F) mixed (tysOk _) (eqsOk _) (view_Parse_tab k) Try.func14 (by kernel_rfl) (by kernel_rfl) (of_decide_eq_true (by kernel_rfl)) (by kernel_rfl)
    (fun s q h => ⟨view_Parse_ac k, ok_of_fix _ _ (view_Parse_fix k), (view_Parse_eq k s).trans h⟩)

/-! #### bodega/bodegaref9.ParseView -/
noncomputable def bodegaref9_ParseView_L1 (_k : Nat) (value_1 : Int) (nodes_2 : Int) (t_6 : TView) (v_8 : TView) (i_9 : Int) : Option ((Int × Int × TView × TView × Int × Unit) ⊕ ((Int × Int × TView × TView × Unit))) :=
  bif (decide (i_9 < (5:Int))) then
    bif (decide ((0:Int) ≤ (IntKind.u64.wrap (IntKind.i64.wrap ((7:Int) * i_9))))) then
      bif (decide ((iand .u64 (iand .u64 (ishr .u64 value_1 (IntKind.u64.wrap (IntKind.i64.wrap ((7:Int) * i_9)))) (127:Int)) (1:Int)) = (1:Int))) then
        bif (decide (v_8.2.1.length + [(i_9, (IntKind.i64.wrap (ishr .u64 (iand .u64 (ishr .u64 value_1 (IntKind.u64.wrap (IntKind.i64.wrap ((7:Int) * i_9)))) (127:Int)) (2:Int))), (decide ((iand .u64 (iand .u64 (ishr .u64 value_1 (IntKind.u64.wrap (IntKind.i64.wrap ((7:Int) * i_9)))) (127:Int)) (2:Int)) = (2:Int))), ())].length < 1073741824)) then
          some (.inl (value_1, nodes_2, t_6, (v_8.1, (v_8.2.1 ++ [(i_9, (IntKind.i64.wrap (ishr .u64 (iand .u64 (ishr .u64 value_1 (IntKind.u64.wrap (IntKind.i64.wrap ((7:Int) * i_9)))) (127:Int)) (2:Int))), (decide ((iand .u64 (iand .u64 (ishr .u64 value_1 (IntKind.u64.wrap (IntKind.i64.wrap ((7:Int) * i_9)))) (127:Int)) (2:Int)) = (2:Int))), ())]), v_8.2.2), (IntKind.i64.wrap (i_9 + (1:Int))), ()))
        else none
      else
        some (.inl (value_1, nodes_2, t_6, v_8, (IntKind.i64.wrap (i_9 + (1:Int))), ()))
    else none
  else
    some (.inr (value_1, nodes_2, t_6, v_8, ()))
noncomputable def bodegaref9_ParseView_L1_it (k : Nat) (value_1 : Int) (nodes_2 : Int) (t_6 : TView) (v_8 : TView) (i_9 : Int) : Option ((Int × Int × TView × TView × Unit)) :=
  iterO (fun s : Int × Int × TView × TView × Int × Unit => bodegaref9_ParseView_L1 k s.1 s.2.1 s.2.2.1 s.2.2.2.1 s.2.2.2.2.1) k (value_1, nodes_2, t_6, v_8, i_9, ())
noncomputable def bodegaref9_ParseView (k : Nat) (number_0 : Int) (value_1 : Int) (nodes_2 : Int) : Option (TView × Int × Unit) :=
  Option.bind (bodegaref9_ParseView_L1_it k value_1 nodes_2 ((0:Int), ([] : (List TMember)), ()) (number_0, ([] : (List TMember)), ()) (0:Int)) fun o1 =>
  Option.bind (bodegaref9_ValidView k o1.2.2.2.1 o1.2.1) fun r2 =>
  bif (!(decide (r2.1 = (0:Int)))) then
    some (((0:Int), ([] : (List TMember)), ()), (14:Int), ())
  else
    Option.bind (bodegaref9_Value k o1.2.2.2.1) fun r3 =>
    bif (!(decide (r3.1 = o1.1))) then
      some (((0:Int), ([] : (List TMember)), ()), (14:Int), ())
    else
      some (o1.2.2.2.1, (0:Int), ())
def bodegaref9_ParseView_sig : Sig := ⟨[⟨false, (.int .i64), .s, .s⟩, ⟨false, (.int .u64), .s, .s⟩, ⟨false, (.int .i64), .s, .s⟩], [((.pair (.int .i64) (.pair (.list (.pair (.int .i64) (.pair (.int .i64) (.pair .bool .unit)))) .unit)), (.p .s (.p (.o .s) .s))), ((.int .i64), .s)]⟩
noncomputable def bodegaref9_ParseView_te (k : Nat) : TE := ⟨bodegaref9_ParseView_sig, fun s => bodegaref9_ParseView k s.1 s.2.1 s.2.2.1⟩
noncomputable def bodegaref9_ParseView_C (k : Nat) : Ctx := cx [(12, bodegaref9_Value_te k), (20, bodegaref9_ValidView_te k)]
noncomputable def bodegaref9_ParseView_code : Code := Try.f15.body.getD .skip
theorem bodegaref9_ParseView_tab (k : Nat) : ∀ f te, (bodegaref9_ParseView_C k).tab f = some te → CallOk Try.prog f te := tab_cons (bodegaref9_Value_ok k) (tab_cons (bodegaref9_ValidView_ok k) (tab_nil))
noncomputable def bodegaref9_ParseView_ac (k : Nat) : AC := (.sq .rg (.sq .rg (.sq (.sq .rg (.bk (.lp [(1, .va (.int .u64) .s), (2, .va (.int .i64) .s), (6, .bo (.pair (.int .i64) (.pair (.list (.pair (.int .i64) (.pair (.int .i64) (.pair .bool .unit)))) .unit)) (.p .s (.p (.o .s) .s))), (8, .bo (.pair (.int .i64) (.pair (.list (.pair (.int .i64) (.pair (.int .i64) (.pair .bool .unit)))) .unit)) (.p .s (.p (.o .s) .s))), (9, .va (.int .i64) .s)] [(.exit 0, [(1, .va (.int .u64) .s), (2, .va (.int .i64) .s), (6, .bo (.pair (.int .i64) (.pair (.list (.pair (.int .i64) (.pair (.int .i64) (.pair .bool .unit)))) .unit)) (.p .s (.p (.o .s) .s))), (8, .bo (.pair (.int .i64) (.pair (.list (.pair (.int .i64) (.pair (.int .i64) (.pair .bool .unit)))) .unit)) (.p .s (.p (.o .s) .s)))])] (fun s => bodegaref9_ParseView_L1 k s.1 s.2.1 s.2.2.1 s.2.2.2.1 s.2.2.2.2.1) (.sq (.sq .rg (.cd .nx .nx)) (.sq (.bk (.sq .rg (.sq .rg (.cd .rg .nx)))) .rg))))) (.sq (.sq .rg (.cd (.sq .rg .nx) .nx)) (.sq (.sq .rg (.sq .rg (.cd (.sq .rg .nx) .nx))) (.sq .rg .nx))))))
theorem bodegaref9_ParseView_fix (k : Nat) : acFix (bodegaref9_ParseView_C k) k 56 (bodegaref9_ParseView_ac k) bodegaref9_ParseView_code = bodegaref9_ParseView_ac k := by kernel_rfl
theorem bodegaref9_ParseView_eq (k : Nat) (s : bodegaref9_ParseView_sig.S) : fnEv (bodegaref9_ParseView_C k) k bodegaref9_ParseView_sig Try.f15 bodegaref9_ParseView_code (bodegaref9_ParseView_ac k) s = (bodegaref9_ParseView_te k).F s := by kernel_rfl
theorem bodegaref9_ParseView_ok (k : Nat) : CallOk Try.prog 15 (bodegaref9_ParseView_te k) :=
  fn_ok (C := bodegaref9_ParseView_C k) (code := bodegaref9_ParseView_code) (g := bodegaref9_ParseView_sig) (k := k) (Fn := (bodegaref9_ParseView_te k).F) mixed (tysOk _) (eqsOk _) (bodegaref9_ParseView_tab k) Try.func15 (by kernel_rfl) (by kernel_rfl) (of_decide_eq_true (by kernel_rfl)) (by kernel_rfl)
    (fun s q h => ⟨bodegaref9_ParseView_ac k, ok_of_fix _ _ (bodegaref9_ParseView_fix k), (bodegaref9_ParseView_eq k s).trans h⟩)

/-! #### bodega/bodegaref9.Initial -/
noncomputable def bodegaref9_Initial_L1 (_k : Nat) (nodes_0 : Int) (t_2 : TView) (v_4 : TView) (i_5 : Int) : Option ((Int × TView × TView × Int × Unit) ⊕ ((TView × TView × Unit))) :=
  bif (decide (i_5 < nodes_0)) then
    bif (decide (v_4.2.1.length + [(i_5, (1:Int), true, ())].length < 1073741824)) then
      some (.inl (nodes_0, t_2, (v_4.1, (v_4.2.1 ++ [(i_5, (1:Int), true, ())]), v_4.2.2), (IntKind.i64.wrap (i_5 + (1:Int))), ()))
    else none
  else
    some (.inr (t_2, v_4, ()))
noncomputable def bodegaref9_Initial_L1_it (k : Nat) (nodes_0 : Int) (t_2 : TView) (v_4 : TView) (i_5 : Int) : Option ((TView × TView × Unit)) :=
  iterO (fun s : Int × TView × TView × Int × Unit => bodegaref9_Initial_L1 k s.1 s.2.1 s.2.2.1 s.2.2.2.1) k (nodes_0, t_2, v_4, i_5, ())
noncomputable def bodegaref9_Initial (k : Nat) (nodes_0 : Int) : Option (TView × Int × Unit) :=
  bif (bif (decide (nodes_0 < (1:Int))) then true else (decide ((5:Int) < nodes_0))) then
    some (((0:Int), ([] : (List TMember)), ()), (1:Int), ())
  else
    Option.bind (bodegaref9_Initial_L1_it k nodes_0 ((0:Int), ([] : (List TMember)), ()) ((0:Int), ([] : (List TMember)), ()) (0:Int)) fun o1 =>
    some (o1.2.1, (0:Int), ())
def bodegaref9_Initial_sig : Sig := ⟨[⟨false, (.int .i64), .s, .s⟩], [((.pair (.int .i64) (.pair (.list (.pair (.int .i64) (.pair (.int .i64) (.pair .bool .unit)))) .unit)), (.p .s (.p (.o .s) .s))), ((.int .i64), .s)]⟩
noncomputable def bodegaref9_Initial_te (k : Nat) : TE := ⟨bodegaref9_Initial_sig, fun s => bodegaref9_Initial k s.1⟩
noncomputable def bodegaref9_Initial_C (_k : Nat) : Ctx := cx []
noncomputable def bodegaref9_Initial_code : Code := Try.f17.body.getD .skip
theorem bodegaref9_Initial_tab (k : Nat) : ∀ f te, (bodegaref9_Initial_C k).tab f = some te → CallOk Try.prog f te := tab_nil
noncomputable def bodegaref9_Initial_ac (k : Nat) : AC := (.sq .rg (.sq (.sq .rg (.cd (.sq .rg .nx) .nx)) (.sq .rg (.sq (.sq .rg (.bk (.lp [(0, .va (.int .i64) .s), (2, .bo (.pair (.int .i64) (.pair (.list (.pair (.int .i64) (.pair (.int .i64) (.pair .bool .unit)))) .unit)) (.p .s (.p (.o .s) .s))), (4, .bo (.pair (.int .i64) (.pair (.list (.pair (.int .i64) (.pair (.int .i64) (.pair .bool .unit)))) .unit)) (.p .s (.p (.o .s) .s))), (5, .va (.int .i64) .s)] [(.exit 0, [(2, .bo (.pair (.int .i64) (.pair (.list (.pair (.int .i64) (.pair (.int .i64) (.pair .bool .unit)))) .unit)) (.p .s (.p (.o .s) .s))), (4, .bo (.pair (.int .i64) (.pair (.list (.pair (.int .i64) (.pair (.int .i64) (.pair .bool .unit)))) .unit)) (.p .s (.p (.o .s) .s)))])] (fun s => bodegaref9_Initial_L1 k s.1 s.2.1 s.2.2.1 s.2.2.2.1) (.sq (.sq .rg (.cd .nx .nx)) (.sq (.bk .rg) .rg))))) (.sq .rg .nx)))))
theorem bodegaref9_Initial_fix (k : Nat) : acFix (bodegaref9_Initial_C k) k 27 (bodegaref9_Initial_ac k) bodegaref9_Initial_code = bodegaref9_Initial_ac k := by kernel_rfl
theorem bodegaref9_Initial_eq (k : Nat) (s : bodegaref9_Initial_sig.S) : fnEv (bodegaref9_Initial_C k) k bodegaref9_Initial_sig Try.f17 bodegaref9_Initial_code (bodegaref9_Initial_ac k) s = (bodegaref9_Initial_te k).F s := by kernel_rfl
theorem bodegaref9_Initial_ok (k : Nat) : CallOk Try.prog 17 (bodegaref9_Initial_te k) :=
  fn_ok (C := bodegaref9_Initial_C k) (code := bodegaref9_Initial_code) (g := bodegaref9_Initial_sig) (k := k) (Fn := (bodegaref9_Initial_te k).F) mixed (tysOk _) (eqsOk _) (bodegaref9_Initial_tab k) Try.func17 (by kernel_rfl) (by kernel_rfl) (of_decide_eq_true (by kernel_rfl)) (by kernel_rfl)
    (fun s q h => ⟨bodegaref9_Initial_ac k, ok_of_fix _ _ (bodegaref9_Initial_fix k), (bodegaref9_Initial_eq k s).trans h⟩)

/-! #### bodega/bodegaref9.SameView -/
noncomputable def bodegaref9_SameView_L1 (_k : Nat) (a_2 : TView) (b_3 : TView) (i_5 : Int) : Option ((TView × TView × Int × Unit) ⊕ ((Bool × Unit) ⊕ (Unit))) :=
  bif (decide (i_5 < (a_2.2.1.length : Int))) then
    bif (decide ((0:Int) ≤ i_5) && decide (i_5 < (a_2.2.1.length : Int))) then
      bif (decide ((0:Int) ≤ i_5) && decide (i_5 < (b_3.2.1.length : Int))) then
        bif (!((decide ((a_2.2.1.getD (i_5.toNat) ((0:Int), (0:Int), false, ())).1 = (b_3.2.1.getD (i_5.toNat) ((0:Int), (0:Int), false, ())).1)) && ((decide ((a_2.2.1.getD (i_5.toNat) ((0:Int), (0:Int), false, ())).2.1 = (b_3.2.1.getD (i_5.toNat) ((0:Int), (0:Int), false, ())).2.1)) && (((a_2.2.1.getD (i_5.toNat) ((0:Int), (0:Int), false, ())).2.2.1 == (b_3.2.1.getD (i_5.toNat) ((0:Int), (0:Int), false, ())).2.2.1) && true)))) then
          some (.inr (.inl (false, ())))
        else
          some (.inl (a_2, b_3, (IntKind.i64.wrap (i_5 + (1:Int))), ()))
      else none
    else none
  else
    some (.inr (.inr ()))
noncomputable def bodegaref9_SameView_L1_it (k : Nat) (a_2 : TView) (b_3 : TView) (i_5 : Int) : Option ((Bool × Unit) ⊕ (Unit)) :=
  iterO (fun s : TView × TView × Int × Unit => bodegaref9_SameView_L1 k s.1 s.2.1 s.2.2.1) k (a_2, b_3, i_5, ())
noncomputable def bodegaref9_SameView (k : Nat) (a_0 : TView) (b_1 : TView) : Option (Bool × Unit) :=
  bif (bif (!(decide (a_0.1 = b_1.1))) then true else (!(decide ((a_0.2.1.length : Int) = (b_1.2.1.length : Int))))) then
    some (false, ())
  else
    Option.bind (bodegaref9_SameView_L1_it k a_0 b_1 (0:Int)) fun o1 =>
    Sum.elim (fun o2 =>
      some (o2.1, ())) (fun _o3 =>
      some (true, ())) o1
def bodegaref9_SameView_sig : Sig := ⟨[⟨false, (.pair (.int .i64) (.pair (.list (.pair (.int .i64) (.pair (.int .i64) (.pair .bool .unit)))) .unit)), .s, .s⟩, ⟨false, (.pair (.int .i64) (.pair (.list (.pair (.int .i64) (.pair (.int .i64) (.pair .bool .unit)))) .unit)), .s, .s⟩], [(.bool, .s)]⟩
noncomputable def bodegaref9_SameView_te (k : Nat) : TE := ⟨bodegaref9_SameView_sig, fun s => bodegaref9_SameView k s.1 s.2.1⟩
noncomputable def bodegaref9_SameView_C (_k : Nat) : Ctx := cx []
noncomputable def bodegaref9_SameView_code : Code := Try.f18.body.getD .skip
theorem bodegaref9_SameView_tab (k : Nat) : ∀ f te, (bodegaref9_SameView_C k).tab f = some te → CallOk Try.prog f te := tab_nil
noncomputable def bodegaref9_SameView_ac (k : Nat) : AC := (.sq .rg (.sq (.sq .rg (.cd (.sq .rg .nx) .nx)) (.sq (.sq .rg (.bk (.lp [(2, .bo (.pair (.int .i64) (.pair (.list (.pair (.int .i64) (.pair (.int .i64) (.pair .bool .unit)))) .unit)) .s), (3, .bo (.pair (.int .i64) (.pair (.list (.pair (.int .i64) (.pair (.int .i64) (.pair .bool .unit)))) .unit)) .s), (5, .va (.int .i64) .s)] [(.ret, [(4, .va .bool .s)]), (.exit 0, [])] (fun s => bodegaref9_SameView_L1 k s.1 s.2.1 s.2.2.1) (.sq (.sq .rg (.cd .nx .nx)) (.sq (.bk (.sq .rg (.cd (.sq .rg .nx) .nx))) .rg))))) (.sq .rg .nx))))
theorem bodegaref9_SameView_fix (k : Nat) : acFix (bodegaref9_SameView_C k) k 38 (bodegaref9_SameView_ac k) bodegaref9_SameView_code = bodegaref9_SameView_ac k := by kernel_rfl
theorem bodegaref9_SameView_eq (k : Nat) (s : bodegaref9_SameView_sig.S) : fnEv (bodegaref9_SameView_C k) k bodegaref9_SameView_sig Try.f18 bodegaref9_SameView_code (bodegaref9_SameView_ac k) s = (bodegaref9_SameView_te k).F s := by kernel_rfl
theorem bodegaref9_SameView_ok (k : Nat) : CallOk Try.prog 18 (bodegaref9_SameView_te k) :=
  fn_ok (C := bodegaref9_SameView_C k) (code := bodegaref9_SameView_code) (g := bodegaref9_SameView_sig) (k := k) (Fn := (bodegaref9_SameView_te k).F) mixed (tysOk _) (eqsOk _) (bodegaref9_SameView_tab k) Try.func18 (by kernel_rfl) (by kernel_rfl) (of_decide_eq_true (by kernel_rfl)) (by kernel_rfl)
    (fun s q h => ⟨bodegaref9_SameView_ac k, ok_of_fix _ _ (bodegaref9_SameView_fix k), (bodegaref9_SameView_eq k s).trans h⟩)

/-! #### bodega/bodegalaw10.ViewValues -/
noncomputable def bodegalaw10_ViewValues (k : Nat) (r_0 : TRaw) (number_1 : Int) (value_2 : Int) (nodes_3 : Int) (bit_4 : Int) : Option (Bool × Unit) :=
  bif (decide ((8:Int) < (r_0.2.2.2.2.2.1.length : Int))) then
    some (true, ())
  else
    Option.bind (bodegalaw10_of k r_0) fun r1 =>
    Option.bind (bodegahand_Pick k nodes_3 (8:Int)) fun r2 =>
    Option.bind (view_Value k r1.1) fun r3 =>
    Option.bind (bodegaref9_Value k r1.1) fun r4 =>
    Option.bind (bif (!(bif (!(decide (r3.1 = r4.1))) then true else (!(decide (r3.2.1 = r4.2.1))))) then bodegalaw10_awake k  else some (false, ())) fun r5 =>
    bif (bif (bif (!(decide (r3.1 = r4.1))) then true else (!(decide (r3.2.1 = r4.2.1)))) then true else (!r5.1)) then
      some (false, ())
    else
      Option.bind (bodegahand_Pick k bit_4 (128:Int)) fun r6 =>
      bif (decide ((0:Int) ≤ (IntKind.u64.wrap (Int.tmod r6.1 (64:Int))))) then
        Option.bind (bodegahand_Pick k bit_4 (128:Int)) fun r7 =>
        Option.bind (view_Parse k r1.1.1 (ixor .u64 r3.1 (IntKind.u64.wrap ((ishl .u64 (1:Int) (IntKind.u64.wrap (Int.tmod r6.1 (64:Int)))) * (IntKind.u64.wrap (IntKind.i64.wrap (Int.tdiv r7.1 (64:Int))))))) (IntKind.i64.wrap (r2.1 - (1:Int)))) fun r8 =>
        Option.bind (bodegaref9_ParseView k r1.1.1 (ixor .u64 r3.1 (IntKind.u64.wrap ((ishl .u64 (1:Int) (IntKind.u64.wrap (Int.tmod r6.1 (64:Int)))) * (IntKind.u64.wrap (IntKind.i64.wrap (Int.tdiv r7.1 (64:Int))))))) (IntKind.i64.wrap (r2.1 - (1:Int)))) fun r9 =>
        Option.bind (view_Parse k number_1 value_2 nodes_3) fun r10 =>
        Option.bind (bodegaref9_ParseView k number_1 value_2 nodes_3) fun r11 =>
        Option.bind (view_Initial k nodes_3) fun r12 =>
        Option.bind (bodegaref9_Initial k nodes_3) fun r13 =>
        Option.bind (bif (decide (r8.2.1 = r9.2.1)) then bodegaref9_SameView k r8.1 r9.1 else some (false, ())) fun r14 =>
        Option.bind (bif (bif (bif (decide (r8.2.1 = r9.2.1)) then r14.1 else false) then (decide (r10.2.1 = r11.2.1)) else false) then bodegaref9_SameView k r10.1 r11.1 else some (false, ())) fun r15 =>
        Option.bind (bif (bif (bif (bif (bif (decide (r8.2.1 = r9.2.1)) then r14.1 else false) then (decide (r10.2.1 = r11.2.1)) else false) then r15.1 else false) then (decide (r12.2.1 = r13.2.1)) else false) then bodegaref9_SameView k r12.1 r13.1 else some (false, ())) fun r16 =>
        some ((bif (bif (bif (bif (bif (decide (r8.2.1 = r9.2.1)) then r14.1 else false) then (decide (r10.2.1 = r11.2.1)) else false) then r15.1 else false) then (decide (r12.2.1 = r13.2.1)) else false) then r16.1 else false), ())
      else none
def bodegalaw10_ViewValues_sig : Sig := ⟨[⟨false, (.pair (.int .i64) (.pair (.int .i64) (.pair (.int .i64) (.pair (.int .i64) (.pair (.int .i64) (.pair (.list (.int .i64)) .unit)))))), .s, .s⟩, ⟨false, (.int .i64), .s, .s⟩, ⟨false, (.int .u64), .s, .s⟩, ⟨false, (.int .i64), .s, .s⟩, ⟨false, (.int .i64), .s, .s⟩], [(.bool, .s)]⟩
noncomputable def bodegalaw10_ViewValues_te (k : Nat) : TE := ⟨bodegalaw10_ViewValues_sig, fun s => bodegalaw10_ViewValues k s.1 s.2.1 s.2.2.1 s.2.2.2.1 s.2.2.2.2.1⟩
noncomputable def bodegalaw10_ViewValues_C (k : Nat) : Ctx := cx [(9, bodegalaw10_of_te k), (10, bodegahand_Pick_te k), (11, view_Value_te k), (12, bodegaref9_Value_te k), (13, bodegalaw10_awake_te k), (14, view_Parse_te k), (15, bodegaref9_ParseView_te k), (16, view_Initial_te k), (17, bodegaref9_Initial_te k), (18, bodegaref9_SameView_te k)]
noncomputable def bodegalaw10_ViewValues_code : Code := Try.f3.body.getD .skip
theorem bodegalaw10_ViewValues_tab (k : Nat) : ∀ f te, (bodegalaw10_ViewValues_C k).tab f = some te → CallOk Try.prog f te := tab_cons (bodegalaw10_of_ok k) (tab_cons (bodegahand_Pick_ok k) (tab_cons (view_Value_ok k) (tab_cons (bodegaref9_Value_ok k) (tab_cons (bodegalaw10_awake_ok k) (tab_cons (view_Parse_ok k) (tab_cons (bodegaref9_ParseView_ok k) (tab_cons (view_Initial_ok k) (tab_cons (bodegaref9_Initial_ok k) (tab_cons (bodegaref9_SameView_ok k) (tab_nil))))))))))
noncomputable def bodegalaw10_ViewValues_ac (_k : Nat) : AC := (.sq .rg (.sq (.sq .rg (.cd (.sq .rg .nx) .nx)) (.sq .rg (.sq .rg (.sq .rg (.sq (.sq .rg (.cd (.sq .rg .nx) .nx)) (.sq .rg (.sq .rg (.sq .rg (.sq .rg (.sq .rg (.sq .rg (.sq .rg (.sq .rg .nx))))))))))))))
theorem bodegalaw10_ViewValues_fix (k : Nat) : acFix (bodegalaw10_ViewValues_C k) k 140 (bodegalaw10_ViewValues_ac k) bodegalaw10_ViewValues_code = bodegalaw10_ViewValues_ac k := by kernel_rfl
theorem bodegalaw10_ViewValues_eq (k : Nat) (s : bodegalaw10_ViewValues_sig.S) : fnEv (bodegalaw10_ViewValues_C k) k bodegalaw10_ViewValues_sig Try.f3 bodegalaw10_ViewValues_code (bodegalaw10_ViewValues_ac k) s = (bodegalaw10_ViewValues_te k).F s := by kernel_rfl
theorem bodegalaw10_ViewValues_ok (k : Nat) : CallOk Try.prog 3 (bodegalaw10_ViewValues_te k) :=
  fn_ok (C := bodegalaw10_ViewValues_C k) (code := bodegalaw10_ViewValues_code) (g := bodegalaw10_ViewValues_sig) (k := k) (Fn := (bodegalaw10_ViewValues_te k).F) mixed (tysOk _) (eqsOk _) (bodegalaw10_ViewValues_tab k) Try.func3 (by kernel_rfl) (by kernel_rfl) (of_decide_eq_true (by kernel_rfl)) (by kernel_rfl)
    (fun s q h => ⟨bodegalaw10_ViewValues_ac k, ok_of_fix _ _ (bodegalaw10_ViewValues_fix k), (bodegalaw10_ViewValues_eq k s).trans h⟩)

/-! #### bodega/bodegalaw10.ViewBack -/
noncomputable def bodegalaw10_ViewBack (k : Nat) (r_0 : TRaw) (t_1 : TRaw) : Option (Bool × Unit) :=
  bif (bif (decide ((8:Int) < (r_0.2.2.2.2.2.1.length : Int))) then true else (decide ((8:Int) < (t_1.2.2.2.2.2.1.length : Int)))) then
    some (true, ())
  else
    Option.bind (bodegalaw10_of k r_0) fun r1 =>
    Option.bind (bodegalaw10_of k t_1) fun r2 =>
    Option.bind (view_Valid k r1.1 (5:Int)) fun r3 =>
    Option.bind (bif (!(!(decide (r3.1 = (0:Int))))) then view_Valid k (r1.1.1, r2.1.2) (5:Int) else some ((0:Int), ())) fun r4 =>
    bif (bif (!(decide (r3.1 = (0:Int)))) then true else (!(decide (r4.1 = (0:Int))))) then
      Option.bind (bodegalaw10_awake k ) fun r5 =>
      Option.bind (bif r5.1 then bodegaref9_ValidView k r1.1 (5:Int) else some ((0:Int), ())) fun r6 =>
      Option.bind (bif r5.1 then bodegaref9_ValidView k (r1.1.1, r2.1.2) (5:Int) else some ((0:Int), ())) fun r7 =>
      some ((bif r5.1 then (!(decide ((IntKind.i64.wrap (r6.1 + r7.1)) = (0:Int)))) else false), ())
    else
      Option.bind (view_Value k r1.1) fun r8 =>
      Option.bind (view_Value k (r1.1.1, r2.1.2)) fun r9 =>
      Option.bind (view_Parse k r1.1.1 r8.1 (5:Int)) fun r10 =>
      Option.bind (bodegalaw10_awake k ) fun r11 =>
      Option.bind (bif (bif (bif (bif r11.1 then (decide (r8.2.1 = (0:Int))) else false) then (decide (r9.2.1 = (0:Int))) else false) then (decide (r10.2.1 = (0:Int))) else false) then bodegaref9_SameView k r1.1 r10.1 else some (false, ())) fun r12 =>
      Option.bind (bif (bif (bif (bif (bif r11.1 then (decide (r8.2.1 = (0:Int))) else false) then (decide (r9.2.1 = (0:Int))) else false) then (decide (r10.2.1 = (0:Int))) else false) then r12.1 else false) then bodegaref9_SameView k r1.1 (r1.1.1, r2.1.2) else some (false, ())) fun r13 =>
      some ((bif (bif (bif (bif (bif (bif r11.1 then (decide (r8.2.1 = (0:Int))) else false) then (decide (r9.2.1 = (0:Int))) else false) then (decide (r10.2.1 = (0:Int))) else false) then r12.1 else false) then ((decide (r8.1 = r9.1)) == r13.1) else false) then (decide (r8.1 < (1099511627776:Int))) else false), ())
def bodegalaw10_ViewBack_sig : Sig := ⟨[⟨false, (.pair (.int .i64) (.pair (.int .i64) (.pair (.int .i64) (.pair (.int .i64) (.pair (.int .i64) (.pair (.list (.int .i64)) .unit)))))), .s, .s⟩, ⟨false, (.pair (.int .i64) (.pair (.int .i64) (.pair (.int .i64) (.pair (.int .i64) (.pair (.int .i64) (.pair (.list (.int .i64)) .unit)))))), .s, .s⟩], [(.bool, .s)]⟩
noncomputable def bodegalaw10_ViewBack_te (k : Nat) : TE := ⟨bodegalaw10_ViewBack_sig, fun s => bodegalaw10_ViewBack k s.1 s.2.1⟩
noncomputable def bodegalaw10_ViewBack_C (k : Nat) : Ctx := cx [(9, bodegalaw10_of_te k), (11, view_Value_te k), (13, bodegalaw10_awake_te k), (14, view_Parse_te k), (18, bodegaref9_SameView_te k), (19, view_Valid_te k), (20, bodegaref9_ValidView_te k)]
noncomputable def bodegalaw10_ViewBack_code : Code := Try.f4.body.getD .skip
theorem bodegalaw10_ViewBack_tab (k : Nat) : ∀ f te, (bodegalaw10_ViewBack_C k).tab f = some te → CallOk Try.prog f te := tab_cons (bodegalaw10_of_ok k) (tab_cons (view_Value_ok k) (tab_cons (bodegalaw10_awake_ok k) (tab_cons (view_Parse_ok k) (tab_cons (bodegaref9_SameView_ok k) (tab_cons (view_Valid_ok k) (tab_cons (bodegaref9_ValidView_ok k) (tab_nil)))))))
noncomputable def bodegalaw10_ViewBack_ac (_k : Nat) : AC := (.sq .rg (.sq (.sq .rg (.cd (.sq .rg .nx) .nx)) (.sq .rg (.sq .rg (.sq (.sq .rg (.cd (.sq .rg .nx) .nx)) (.sq .rg (.sq .rg (.sq .rg (.sq .rg .nx)))))))))
theorem bodegalaw10_ViewBack_fix (k : Nat) : acFix (bodegalaw10_ViewBack_C k) k 95 (bodegalaw10_ViewBack_ac k) bodegalaw10_ViewBack_code = bodegalaw10_ViewBack_ac k := by kernel_rfl
theorem bodegalaw10_ViewBack_eq (k : Nat) (s : bodegalaw10_ViewBack_sig.S) : fnEv (bodegalaw10_ViewBack_C k) k bodegalaw10_ViewBack_sig Try.f4 bodegalaw10_ViewBack_code (bodegalaw10_ViewBack_ac k) s = (bodegalaw10_ViewBack_te k).F s := by kernel_rfl
theorem bodegalaw10_ViewBack_ok (k : Nat) : CallOk Try.prog 4 (bodegalaw10_ViewBack_te k) :=
  fn_ok (C := bodegalaw10_ViewBack_C k) (code := bodegalaw10_ViewBack_code) (g := bodegalaw10_ViewBack_sig) (k := k) (Fn := (bodegalaw10_ViewBack_te k).F) mixed (tysOk _) (eqsOk _) (bodegalaw10_ViewBack_tab k) Try.func4 (by kernel_rfl) (by kernel_rfl) (of_decide_eq_true (by kernel_rfl)) (by kernel_rfl)
    (fun s q h => ⟨bodegalaw10_ViewBack_ac k, ok_of_fix _ _ (bodegalaw10_ViewBack_fix k), (bodegalaw10_ViewBack_eq k s).trans h⟩)

/-! #### slices.Equal(()bodega/api.Member,bodega/api.Member) -/
noncomputable def slices_Equal_L1 (_k : Nat) (s1_0 : (List TMember)) (s2_1 : (List TMember)) (t_12 : Int) (t_13 : Int) : Option (((List TMember) × (List TMember) × Int × Int × Unit) ⊕ ((Bool × Unit) ⊕ (Unit))) :=
  bif (decide (t_13 < t_12)) then
    bif (decide ((0:Int) ≤ t_13) && decide (t_13 < (s1_0.length : Int))) then
      bif (decide ((0:Int) ≤ t_13) && decide (t_13 < (s2_1.length : Int))) then
        bif (!((decide ((s1_0.getD (t_13.toNat) ((0:Int), (0:Int), false, ())).1 = (s2_1.getD (t_13.toNat) ((0:Int), (0:Int), false, ())).1)) && ((decide ((s1_0.getD (t_13.toNat) ((0:Int), (0:Int), false, ())).2.1 = (s2_1.getD (t_13.toNat) ((0:Int), (0:Int), false, ())).2.1)) && (((s1_0.getD (t_13.toNat) ((0:Int), (0:Int), false, ())).2.2.1 == (s2_1.getD (t_13.toNat) ((0:Int), (0:Int), false, ())).2.2.1) && true)))) then
          some (.inr (.inl (false, ())))
        else
          some (.inl (s1_0, s2_1, t_12, (IntKind.i64.wrap (t_13 + (1:Int))), ()))
      else none
    else none
  else
    some (.inr (.inr ()))
noncomputable def slices_Equal_L1_it (k : Nat) (s1_0 : (List TMember)) (s2_1 : (List TMember)) (t_12 : Int) (t_13 : Int) : Option ((Bool × Unit) ⊕ (Unit)) :=
  iterO (fun s : (List TMember) × (List TMember) × Int × Int × Unit => slices_Equal_L1 k s.1 s.2.1 s.2.2.1 s.2.2.2.1) k (s1_0, s2_1, t_12, t_13, ())
noncomputable def slices_Equal (k : Nat) (s1_0 : (List TMember)) (s2_1 : (List TMember)) : Option (Bool × Unit) :=
  bif (!(decide ((s1_0.length : Int) = (s2_1.length : Int)))) then
    some (false, ())
  else
    Option.bind (slices_Equal_L1_it k s1_0 s2_1 (s1_0.length : Int) (0:Int)) fun o1 =>
    Sum.elim (fun o2 =>
      some (o2.1, ())) (fun _o3 =>
      some (true, ())) o1
def slices_Equal_sig : Sig := ⟨[⟨false, (.list (.pair (.int .i64) (.pair (.int .i64) (.pair .bool .unit)))), .s, .s⟩, ⟨false, (.list (.pair (.int .i64) (.pair (.int .i64) (.pair .bool .unit)))), .s, .s⟩], [(.bool, .s)]⟩
noncomputable def slices_Equal_te (k : Nat) : TE := ⟨slices_Equal_sig, fun s => slices_Equal k s.1 s.2.1⟩
noncomputable def slices_Equal_C (_k : Nat) : Ctx := cx []
noncomputable def slices_Equal_code : Code := Try.f38.body.getD .skip
theorem slices_Equal_tab (k : Nat) : ∀ f te, (slices_Equal_C k).tab f = some te → CallOk Try.prog f te := tab_nil
noncomputable def slices_Equal_ac (k : Nat) : AC := (.sq .rg (.sq (.sq .rg (.cd (.sq .rg .nx) .nx)) (.sq (.sq .rg (.bk (.lp [(0, .va (.list (.pair (.int .i64) (.pair (.int .i64) (.pair .bool .unit)))) .s), (1, .va (.list (.pair (.int .i64) (.pair (.int .i64) (.pair .bool .unit)))) .s), (12, .va (.int .i64) .s), (13, .va (.int .i64) .s)] [(.ret, [(4, .va .bool .s)]), (.exit 0, [])] (fun s => slices_Equal_L1 k s.1 s.2.1 s.2.2.1 s.2.2.2.1) (.sq .rg (.sq (.cd .nx .nx) (.sq (.bk (.sq .rg (.sq .rg (.cd (.sq .rg .nx) .nx)))) .rg)))))) (.sq .rg .nx))))
theorem slices_Equal_fix (k : Nat) : acFix (slices_Equal_C k) k 26 (slices_Equal_ac k) slices_Equal_code = slices_Equal_ac k := by kernel_rfl
theorem slices_Equal_eq (k : Nat) (s : slices_Equal_sig.S) : fnEv (slices_Equal_C k) k slices_Equal_sig Try.f38 slices_Equal_code (slices_Equal_ac k) s = (slices_Equal_te k).F s := by kernel_rfl
theorem slices_Equal_ok (k : Nat) : CallOk Try.prog 38 (slices_Equal_te k) :=
  fn_ok (C := slices_Equal_C k) (code := slices_Equal_code) (g := slices_Equal_sig) (k := k) (Fn := (slices_Equal_te k).F) mixed (tysOk _) (eqsOk _) (slices_Equal_tab k) Try.func38 (by kernel_rfl) (by kernel_rfl) (of_decide_eq_true (by kernel_rfl)) (by kernel_rfl)
    (fun s q h => ⟨slices_Equal_ac k, ok_of_fix _ _ (slices_Equal_fix k), (slices_Equal_eq k s).trans h⟩)

/-! #### bodega/view.Same -/
noncomputable def view_Same (k : Nat) (a_0 : TView) (b_1 : TView) : Option (Bool × Unit) :=
  Option.bind (bif (decide (a_0.1 = b_1.1)) then slices_Equal k a_0.2.1 b_1.2.1 else some (false, ())) fun r1 =>
  some ((bif (decide (a_0.1 = b_1.1)) then r1.1 else false), ())
def view_Same_sig : Sig := ⟨[⟨false, (.pair (.int .i64) (.pair (.list (.pair (.int .i64) (.pair (.int .i64) (.pair .bool .unit)))) .unit)), .s, .s⟩, ⟨false, (.pair (.int .i64) (.pair (.list (.pair (.int .i64) (.pair (.int .i64) (.pair .bool .unit)))) .unit)), .s, .s⟩], [(.bool, .s)]⟩
noncomputable def view_Same_te (k : Nat) : TE := ⟨view_Same_sig, fun s => view_Same k s.1 s.2.1⟩
noncomputable def view_Same_C (k : Nat) : Ctx := cx [(38, slices_Equal_te k)]
noncomputable def view_Same_code : Code := Try.f21.body.getD .skip
theorem view_Same_tab (k : Nat) : ∀ f te, (view_Same_C k).tab f = some te → CallOk Try.prog f te := tab_cons (slices_Equal_ok k) (tab_nil)
noncomputable def view_Same_ac (_k : Nat) : AC := (.sq .rg (.sq .rg .nx))
theorem view_Same_fix (k : Nat) : acFix (view_Same_C k) k 17 (view_Same_ac k) view_Same_code = view_Same_ac k := by kernel_rfl
theorem view_Same_eq (k : Nat) (s : view_Same_sig.S) : fnEv (view_Same_C k) k view_Same_sig Try.f21 view_Same_code (view_Same_ac k) s = (view_Same_te k).F s := by kernel_rfl
theorem view_Same_ok (k : Nat) : CallOk Try.prog 21 (view_Same_te k) :=
  fn_ok (C := view_Same_C k) (code := view_Same_code) (g := view_Same_sig) (k := k) (Fn := (view_Same_te k).F) mixed (tysOk _) (eqsOk _) (view_Same_tab k) Try.func21 (by kernel_rfl) (by kernel_rfl) (of_decide_eq_true (by kernel_rfl)) (by kernel_rfl)
    (fun s q h => ⟨view_Same_ac k, ok_of_fix _ _ (view_Same_fix k), (view_Same_eq k s).trans h⟩)

/-! #### bodega/bodegalaw10.ViewValid -/
noncomputable def bodegalaw10_ViewValid (k : Nat) (v_0 : TView) (r_1 : TRaw) (t_2 : TRaw) (nodes_3 : Int) : Option (Bool × Unit) :=
  bif (bif (bif (decide ((12:Int) < (v_0.2.1.length : Int))) then true else (decide ((8:Int) < (r_1.2.2.2.2.2.1.length : Int)))) then true else (decide ((8:Int) < (t_2.2.2.2.2.2.1.length : Int)))) then
    some (true, ())
  else
    Option.bind (bodegalaw10_of k r_1) fun r1 =>
    Option.bind (bodegalaw10_of k t_2) fun r2 =>
    Option.bind (bodegahand_Pick k nodes_3 (8:Int)) fun r3 =>
    Option.bind (bodegalaw10_awake k ) fun r4 =>
    Option.bind (bif r4.1 then view_Valid k v_0 nodes_3 else some ((0:Int), ())) fun r5 =>
    Option.bind (bif r4.1 then bodegaref9_ValidView k v_0 nodes_3 else some ((0:Int), ())) fun r6 =>
    Option.bind (bif (bif r4.1 then (decide (r5.1 = r6.1)) else false) then view_Valid k r1.1 (IntKind.i64.wrap (r3.1 - (1:Int))) else some ((0:Int), ())) fun r7 =>
    Option.bind (bif (bif r4.1 then (decide (r5.1 = r6.1)) else false) then bodegaref9_ValidView k r1.1 (IntKind.i64.wrap (r3.1 - (1:Int))) else some ((0:Int), ())) fun r8 =>
    Option.bind (bif (bif (bif r4.1 then (decide (r5.1 = r6.1)) else false) then (decide (r7.1 = r8.1)) else false) then view_Same k r1.1 r2.1 else some (false, ())) fun r9 =>
    Option.bind (bif (bif (bif r4.1 then (decide (r5.1 = r6.1)) else false) then (decide (r7.1 = r8.1)) else false) then bodegaref9_SameView k r1.1 r2.1 else some (false, ())) fun r10 =>
    Option.bind (bif (bif (bif (bif r4.1 then (decide (r5.1 = r6.1)) else false) then (decide (r7.1 = r8.1)) else false) then (r9.1 == r10.1) else false) then view_Same k r1.1 r1.1 else some (false, ())) fun r11 =>
    Option.bind (bif (bif (bif (bif (bif r4.1 then (decide (r5.1 = r6.1)) else false) then (decide (r7.1 = r8.1)) else false) then (r9.1 == r10.1) else false) then r11.1 else false) then view_Same k v_0 r1.1 else some (false, ())) fun r12 =>
    Option.bind (bif (bif (bif (bif (bif r4.1 then (decide (r5.1 = r6.1)) else false) then (decide (r7.1 = r8.1)) else false) then (r9.1 == r10.1) else false) then r11.1 else false) then bodegaref9_SameView k v_0 r1.1 else some (false, ())) fun r13 =>
    some ((bif (bif (bif (bif (bif r4.1 then (decide (r5.1 = r6.1)) else false) then (decide (r7.1 = r8.1)) else false) then (r9.1 == r10.1) else false) then r11.1 else false) then (r12.1 == r13.1) else false), ())
def bodegalaw10_ViewValid_sig : Sig := ⟨[⟨false, (.pair (.int .i64) (.pair (.list (.pair (.int .i64) (.pair (.int .i64) (.pair .bool .unit)))) .unit)), .s, .s⟩, ⟨false, (.pair (.int .i64) (.pair (.int .i64) (.pair (.int .i64) (.pair (.int .i64) (.pair (.int .i64) (.pair (.list (.int .i64)) .unit)))))), .s, .s⟩, ⟨false, (.pair (.int .i64) (.pair (.int .i64) (.pair (.int .i64) (.pair (.int .i64) (.pair (.int .i64) (.pair (.list (.int .i64)) .unit)))))), .s, .s⟩, ⟨false, (.int .i64), .s, .s⟩], [(.bool, .s)]⟩
noncomputable def bodegalaw10_ViewValid_te (k : Nat) : TE := ⟨bodegalaw10_ViewValid_sig, fun s => bodegalaw10_ViewValid k s.1 s.2.1 s.2.2.1 s.2.2.2.1⟩
noncomputable def bodegalaw10_ViewValid_C (k : Nat) : Ctx := cx [(9, bodegalaw10_of_te k), (10, bodegahand_Pick_te k), (13, bodegalaw10_awake_te k), (18, bodegaref9_SameView_te k), (19, view_Valid_te k), (20, bodegaref9_ValidView_te k), (21, view_Same_te k)]
noncomputable def bodegalaw10_ViewValid_code : Code := Try.f5.body.getD .skip
theorem bodegalaw10_ViewValid_tab (k : Nat) : ∀ f te, (bodegalaw10_ViewValid_C k).tab f = some te → CallOk Try.prog f te := tab_cons (bodegalaw10_of_ok k) (tab_cons (bodegahand_Pick_ok k) (tab_cons (bodegalaw10_awake_ok k) (tab_cons (bodegaref9_SameView_ok k) (tab_cons (view_Valid_ok k) (tab_cons (bodegaref9_ValidView_ok k) (tab_cons (view_Same_ok k) (tab_nil)))))))
noncomputable def bodegalaw10_ViewValid_ac (_k : Nat) : AC := (.sq .rg (.sq (.sq .rg (.cd (.sq .rg .nx) .nx)) (.sq .rg (.sq .rg .nx))))
theorem bodegalaw10_ViewValid_fix (k : Nat) : acFix (bodegalaw10_ViewValid_C k) k 77 (bodegalaw10_ViewValid_ac k) bodegalaw10_ViewValid_code = bodegalaw10_ViewValid_ac k := by kernel_rfl
theorem bodegalaw10_ViewValid_eq (k : Nat) (s : bodegalaw10_ViewValid_sig.S) : fnEv (bodegalaw10_ViewValid_C k) k bodegalaw10_ViewValid_sig Try.f5 bodegalaw10_ViewValid_code (bodegalaw10_ViewValid_ac k) s = (bodegalaw10_ViewValid_te k).F s := by kernel_rfl
theorem bodegalaw10_ViewValid_ok (k : Nat) : CallOk Try.prog 5 (bodegalaw10_ViewValid_te k) :=
  fn_ok (C := bodegalaw10_ViewValid_C k) (code := bodegalaw10_ViewValid_code) (g := bodegalaw10_ViewValid_sig) (k := k) (Fn := (bodegalaw10_ViewValid_te k).F) mixed (tysOk _) (eqsOk _) (bodegalaw10_ViewValid_tab k) Try.func5 (by kernel_rfl) (by kernel_rfl) (of_decide_eq_true (by kernel_rfl)) (by kernel_rfl)
    (fun s q h => ⟨bodegalaw10_ViewValid_ac k, ok_of_fix _ _ (bodegalaw10_ViewValid_fix k), (bodegalaw10_ViewValid_eq k s).trans h⟩)

end Go.Proofs.Ytjbnedjlcpdekaa.N
