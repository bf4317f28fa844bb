import Derived.Test.YtjbnedjlcpdekaaN3

set_option maxRecDepth 1000000
namespace Go.Proofs.Ytjbnedjlcpdekaa.N
open Go.VL Go.Proofs

/-! #### bodega/word.Key -/
noncomputable def word_Key (k : Nat) (number_0 : Int) (t_1 : Bool) : Option (Int × Int × Unit) :=
  Option.bind (word_within k number_0 (0:Int) (15:Int)) fun r1 =>
  bif (!r1.1) then
    some ((0:Int), (2:Int), ())
  else
    bif t_1 then
      some ((IntKind.u64.wrap ((IntKind.u64.wrap ((IntKind.u64.wrap number_0) * (2:Int))) + (1:Int))), (0:Int), ())
    else
      some ((IntKind.u64.wrap ((IntKind.u64.wrap number_0) * (2:Int))), (0:Int), ())
def word_Key_sig : Sig := ⟨[⟨false, (.int .i64), .s, .s⟩, ⟨false, .bool, .s, .s⟩], [((.int .u64), .s), ((.int .i64), .s)]⟩
noncomputable def word_Key_te (k : Nat) : TE := ⟨word_Key_sig, fun s => word_Key k s.1 s.2.1⟩
noncomputable def word_Key_C (k : Nat) : Ctx := cx [(46, word_within_te k)]
noncomputable def word_Key_code : Code := Try.f42.body.getD .skip
theorem word_Key_tab (k : Nat) : ∀ f te, (word_Key_C k).tab f = some te → CallOk Try.prog f te := tab_cons (word_within_ok k) (tab_nil)
noncomputable def word_Key_ac (_k : Nat) : AC := (.sq .rg (.sq (.sq .rg (.cd (.sq .rg .nx) .nx)) (.sq .rg (.sq (.sq .rg (.cd .rg .nx)) (.sq .rg .nx)))))
theorem word_Key_fix (k : Nat) : acFix (word_Key_C k) k 17 (word_Key_ac k) word_Key_code = word_Key_ac k := by kernel_rfl
theorem word_Key_eq (k : Nat) (s : word_Key_sig.S) : fnEv (word_Key_C k) k word_Key_sig Try.f42 word_Key_code (word_Key_ac k) s = (word_Key_te k).F s := by kernel_rfl
theorem word_Key_ok (k : Nat) : CallOk Try.prog 42 (word_Key_te k) :=
  fn_ok (C := word_Key_C k) (code := word_Key_code) (g := word_Key_sig) (k := k) (Fn := (word_Key_te k).F) mixed (tysOk _) (eqsOk _) (word_Key_tab k) Try.func42 (by kernel_rfl) (by kernel_rfl) (of_decide_eq_true (by kernel_rfl)) (by kernel_rfl)
    (fun s q h => ⟨word_Key_ac k, ok_of_fix _ _ (word_Key_fix k), (word_Key_eq k s).trans h⟩)

/-! #### slices.Clone(()uint64,uint64) -/
noncomputable def slices_Clone_2 (_k : Nat) (t_0 : (List Int)) : Option ((List Int) × Unit) :=
  agree (
    bif (decide (([] : (List Int)).length + t_0.length < 1073741824)) then
      some ((([] : (List Int)) ++ t_0), ())
    else none)
    (bif (t_0.isEmpty) then
      some (([] : (List Int)), ())
    else
      bif (decide (([] : (List Int)).length + t_0.length < 1073741824)) then
        some ((([] : (List Int)) ++ t_0), ())
      else none)
def slices_Clone_2_sig : Sig := ⟨[⟨false, (.list (.int .u64)), .s, .s⟩], [((.list (.int .u64)), (.o .s))]⟩
noncomputable def slices_Clone_2_te (k : Nat) : TE := ⟨slices_Clone_2_sig, fun s => slices_Clone_2 k s.1⟩
noncomputable def slices_Clone_2_C (_k : Nat) : Ctx := cx []
noncomputable def slices_Clone_2_code : Code := Try.f43.body.getD .skip
theorem slices_Clone_2_tab (k : Nat) : ∀ f te, (slices_Clone_2_C k).tab f = some te → CallOk Try.prog f te := tab_nil
noncomputable def slices_Clone_2_ac (_k : Nat) : AC := (.sq .rg (.sq (.sq .rg (.cd (.sq .rg .nx) .nx)) (.sq .rg .nx)))
theorem slices_Clone_2_fix (k : Nat) : acFix (slices_Clone_2_C k) k 8 (slices_Clone_2_ac k) slices_Clone_2_code = slices_Clone_2_ac k := by kernel_rfl
theorem slices_Clone_2_eq (k : Nat) (s : slices_Clone_2_sig.S) : fnEv (slices_Clone_2_C k) k slices_Clone_2_sig Try.f43 slices_Clone_2_code (slices_Clone_2_ac k) s = (slices_Clone_2_te k).F s := by kernel_rfl
theorem slices_Clone_2_ok (k : Nat) : CallOk Try.prog 43 (slices_Clone_2_te k) :=
  fn_ok (C := slices_Clone_2_C k) (code := slices_Clone_2_code) (g := slices_Clone_2_sig) (k := k) (Fn := (slices_Clone_2_te k).F) mixed (tysOk _) (eqsOk _) (slices_Clone_2_tab k) Try.func43 (by kernel_rfl) (by kernel_rfl) (of_decide_eq_true (by kernel_rfl)) (by kernel_rfl)
    (fun s q h => ⟨slices_Clone_2_ac k, ok_of_fix _ _ (slices_Clone_2_fix k), (slices_Clone_2_eq k s).trans h⟩)

/-! #### bodega/view.Address -/
noncomputable def view_Address (k : Nat) (v_0 : TView) (m_1 : TMember) (t_2 : Bool) (x_3 : TVerb) : Option (TVerb × Unit) :=
  Option.bind (word_Key k v_0.1 t_2) fun r1 =>
  Option.bind (slices_Clone_2 k x_3.2.2.2.2.2.2.1) fun r2 =>
  some ((x_3.1, m_1.1, x_3.2.2.1, x_3.2.2.2.1, x_3.2.2.2.2.1, x_3.2.2.2.2.2.1, r2.1, r1.1, m_1.2.1, x_3.2.2.2.2.2.2.2.2.2), ())
def view_Address_sig : Sig := ⟨[⟨false, (.pair (.int .i64) (.pair (.list (.pair (.int .i64) (.pair (.int .i64) (.pair .bool .unit)))) .unit)), .s, .s⟩, ⟨false, (.pair (.int .i64) (.pair (.int .i64) (.pair .bool .unit))), .s, .s⟩, ⟨false, .bool, .s, .s⟩, ⟨false, (.pair (.int .i64) (.pair (.int .i64) (.pair (.int .i64) (.pair (.int .i64) (.pair (.int .u64) (.pair (.int .u64) (.pair (.list (.int .u64)) (.pair (.int .u64) (.pair (.int .i64) .unit))))))))), .s, .s⟩], [((.pair (.int .i64) (.pair (.int .i64) (.pair (.int .i64) (.pair (.int .i64) (.pair (.int .u64) (.pair (.int .u64) (.pair (.list (.int .u64)) (.pair (.int .u64) (.pair (.int .i64) .unit))))))))), (.p .s (.p .s (.p .s (.p .s (.p .s (.p .s (.p (.o .s) .s))))))))]⟩
noncomputable def view_Address_te (k : Nat) : TE := ⟨view_Address_sig, fun s => view_Address k s.1 s.2.1 s.2.2.1 s.2.2.2.1⟩
noncomputable def view_Address_C (k : Nat) : Ctx := cx [(42, word_Key_te k), (43, slices_Clone_2_te k)]
noncomputable def view_Address_code : Code := Try.f32.body.getD .skip
theorem view_Address_tab (k : Nat) : ∀ f te, (view_Address_C k).tab f = some te → CallOk Try.prog f te := tab_cons (word_Key_ok k) (tab_cons (slices_Clone_2_ok k) (tab_nil))
noncomputable def view_Address_ac (_k : Nat) : AC := (.sq .rg (.sq .rg (.sq .rg (.sq .rg (.sq .rg .nx)))))
theorem view_Address_fix (k : Nat) : acFix (view_Address_C k) k 28 (view_Address_ac k) view_Address_code = view_Address_ac k := by kernel_rfl
theorem view_Address_eq (k : Nat) (s : view_Address_sig.S) : fnEv (view_Address_C k) k view_Address_sig Try.f32 view_Address_code (view_Address_ac k) s = (view_Address_te k).F s := by kernel_rfl
theorem view_Address_ok (k : Nat) : CallOk Try.prog 32 (view_Address_te k) :=
  fn_ok (C := view_Address_C k) (code := view_Address_code) (g := view_Address_sig) (k := k) (Fn := (view_Address_te k).F) mixed (tysOk _) (eqsOk _) (view_Address_tab k) Try.func32 (by kernel_rfl) (by kernel_rfl) (of_decide_eq_true (by kernel_rfl)) (by kernel_rfl)
    (fun s q h => ⟨view_Address_ac k, ok_of_fix _ _ (view_Address_fix k), (view_Address_eq k s).trans h⟩)

/-! #### bodega/bodegaref1.Key -/
noncomputable def bodegaref1_Key (_k : Nat) (number_0 : Int) (t_1 : Bool) : Option (Int × Int × Unit) :=
  bif (bif (decide (number_0 < (0:Int))) then true else (decide ((16:Int) ≤ number_0))) then
    some ((0:Int), (2:Int), ())
  else
    bif t_1 then
      some ((IntKind.u64.wrap ((IntKind.u64.wrap (IntKind.i64.wrap ((2:Int) * number_0))) + (1:Int))), (0:Int), ())
    else
      some ((IntKind.u64.wrap (IntKind.i64.wrap ((2:Int) * number_0))), (0:Int), ())
def bodegaref1_Key_sig : Sig := ⟨[⟨false, (.int .i64), .s, .s⟩, ⟨false, .bool, .s, .s⟩], [((.int .u64), .s), ((.int .i64), .s)]⟩
noncomputable def bodegaref1_Key_te (k : Nat) : TE := ⟨bodegaref1_Key_sig, fun s => bodegaref1_Key k s.1 s.2.1⟩
noncomputable def bodegaref1_Key_C (_k : Nat) : Ctx := cx []
noncomputable def bodegaref1_Key_code : Code := Try.f44.body.getD .skip
theorem bodegaref1_Key_tab (k : Nat) : ∀ f te, (bodegaref1_Key_C k).tab f = some te → CallOk Try.prog f te := tab_nil
noncomputable def bodegaref1_Key_ac (_k : Nat) : AC := (.sq .rg (.sq (.sq .rg (.cd (.sq .rg .nx) .nx)) (.sq .rg (.sq (.sq .rg (.cd .rg .nx)) (.sq .rg .nx)))))
theorem bodegaref1_Key_fix (k : Nat) : acFix (bodegaref1_Key_C k) k 20 (bodegaref1_Key_ac k) bodegaref1_Key_code = bodegaref1_Key_ac k := by kernel_rfl
theorem bodegaref1_Key_eq (k : Nat) (s : bodegaref1_Key_sig.S) : fnEv (bodegaref1_Key_C k) k bodegaref1_Key_sig Try.f44 bodegaref1_Key_code (bodegaref1_Key_ac k) s = (bodegaref1_Key_te k).F s := by kernel_rfl
theorem bodegaref1_Key_ok (k : Nat) : CallOk Try.prog 44 (bodegaref1_Key_te k) :=
  fn_ok (C := bodegaref1_Key_C k) (code := bodegaref1_Key_code) (g := bodegaref1_Key_sig) (k := k) (Fn := (bodegaref1_Key_te k).F) mixed (tysOk _) (eqsOk _) (bodegaref1_Key_tab k) Try.func44 (by kernel_rfl) (by kernel_rfl) (of_decide_eq_true (by kernel_rfl)) (by kernel_rfl)
    (fun s q h => ⟨bodegaref1_Key_ac k, ok_of_fix _ _ (bodegaref1_Key_fix k), (bodegaref1_Key_eq k s).trans h⟩)

/-! #### bodega/bodegaref9.Address -/
noncomputable def bodegaref9_Address (k : Nat) (v_0 : TView) (m_1 : TMember) (t_2 : Bool) (x_3 : TVerb) : Option (TVerb × Unit) :=
  Option.bind (bodegaref1_Key k v_0.1 t_2) fun r1 =>
  some ((x_3.1, m_1.1, x_3.2.2.1, x_3.2.2.2.1, x_3.2.2.2.2.1, x_3.2.2.2.2.2.1, x_3.2.2.2.2.2.2.1, r1.1, m_1.2.1, x_3.2.2.2.2.2.2.2.2.2), ())
def bodegaref9_Address_sig : Sig := ⟨[⟨false, (.pair (.int .i64) (.pair (.list (.pair (.int .i64) (.pair (.int .i64) (.pair .bool .unit)))) .unit)), .s, .s⟩, ⟨false, (.pair (.int .i64) (.pair (.int .i64) (.pair .bool .unit))), .s, .s⟩, ⟨false, .bool, .s, .s⟩, ⟨false, (.pair (.int .i64) (.pair (.int .i64) (.pair (.int .i64) (.pair (.int .i64) (.pair (.int .u64) (.pair (.int .u64) (.pair (.list (.int .u64)) (.pair (.int .u64) (.pair (.int .i64) .unit))))))))), .s, .s⟩], [((.pair (.int .i64) (.pair (.int .i64) (.pair (.int .i64) (.pair (.int .i64) (.pair (.int .u64) (.pair (.int .u64) (.pair (.list (.int .u64)) (.pair (.int .u64) (.pair (.int .i64) .unit))))))))), .s)]⟩
noncomputable def bodegaref9_Address_te (k : Nat) : TE := ⟨bodegaref9_Address_sig, fun s => bodegaref9_Address k s.1 s.2.1 s.2.2.1 s.2.2.2.1⟩
noncomputable def bodegaref9_Address_C (k : Nat) : Ctx := cx [(44, bodegaref1_Key_te k)]
noncomputable def bodegaref9_Address_code : Code := Try.f33.body.getD .skip
theorem bodegaref9_Address_tab (k : Nat) : ∀ f te, (bodegaref9_Address_C k).tab f = some te → CallOk Try.prog f te := tab_cons (bodegaref1_Key_ok k) (tab_nil)
noncomputable def bodegaref9_Address_ac (_k : Nat) : AC := (.sq .rg (.sq .rg (.sq .rg (.sq .rg .nx))))
theorem bodegaref9_Address_fix (k : Nat) : acFix (bodegaref9_Address_C k) k 24 (bodegaref9_Address_ac k) bodegaref9_Address_code = bodegaref9_Address_ac k := by kernel_rfl
theorem bodegaref9_Address_eq (k : Nat) (s : bodegaref9_Address_sig.S) : fnEv (bodegaref9_Address_C k) k bodegaref9_Address_sig Try.f33 bodegaref9_Address_code (bodegaref9_Address_ac k) s = (bodegaref9_Address_te k).F s := by kernel_rfl
theorem bodegaref9_Address_ok (k : Nat) : CallOk Try.prog 33 (bodegaref9_Address_te k) :=
  fn_ok (C := bodegaref9_Address_C k) (code := bodegaref9_Address_code) (g := bodegaref9_Address_sig) (k := k) (Fn := (bodegaref9_Address_te k).F) mixed (tysOk _) (eqsOk _) (bodegaref9_Address_tab k) Try.func33 (by kernel_rfl) (by kernel_rfl) (of_decide_eq_true (by kernel_rfl)) (by kernel_rfl)
    (fun s q h => ⟨bodegaref9_Address_ac k, ok_of_fix _ _ (bodegaref9_Address_fix k), (bodegaref9_Address_eq k s).trans h⟩)

/-! #### bodega/bodegaref1.SameWords -/
noncomputable def bodegaref1_SameWords_L1 (_k : Nat) (a_0 : (List Int)) (b_1 : (List Int)) (i_5 : Int) : Option (((List Int) × (List Int) × Int × Unit) ⊕ ((Bool × Unit) ⊕ (Unit))) :=
  bif (decide (i_5 < (a_0.length : Int))) then
    bif (decide ((0:Int) ≤ i_5) && decide (i_5 < (a_0.length : Int))) then
      bif (decide ((0:Int) ≤ i_5) && decide (i_5 < (b_1.length : Int))) then
        bif (!(decide ((a_0.getD (i_5.toNat) (0:Int)) = (b_1.getD (i_5.toNat) (0:Int))))) then
          some (.inr (.inl (false, ())))
        else
          some (.inl (a_0, b_1, (IntKind.i64.wrap (i_5 + (1:Int))), ()))
      else none
    else none
  else
    some (.inr (.inr ()))
noncomputable def bodegaref1_SameWords_L1_it (k : Nat) (a_0 : (List Int)) (b_1 : (List Int)) (i_5 : Int) : Option ((Bool × Unit) ⊕ (Unit)) :=
  iterO (fun s : (List Int) × (List Int) × Int × Unit => bodegaref1_SameWords_L1 k s.1 s.2.1 s.2.2.1) k (a_0, b_1, i_5, ())
noncomputable def bodegaref1_SameWords (k : Nat) (a_0 : (List Int)) (b_1 : (List Int)) : Option (Bool × Unit) :=
  bif (!(decide ((a_0.length : Int) = (b_1.length : Int)))) then
    some (false, ())
  else
    Option.bind (bodegaref1_SameWords_L1_it k a_0 b_1 (0:Int)) fun o1 =>
    Sum.elim (fun o2 =>
      some (o2.1, ())) (fun _o3 =>
      some (true, ())) o1
def bodegaref1_SameWords_sig : Sig := ⟨[⟨false, (.list (.int .u64)), .s, .s⟩, ⟨false, (.list (.int .u64)), .s, .s⟩], [(.bool, .s)]⟩
noncomputable def bodegaref1_SameWords_te (k : Nat) : TE := ⟨bodegaref1_SameWords_sig, fun s => bodegaref1_SameWords k s.1 s.2.1⟩
noncomputable def bodegaref1_SameWords_C (_k : Nat) : Ctx := cx []
noncomputable def bodegaref1_SameWords_code : Code := Try.f41.body.getD .skip
theorem bodegaref1_SameWords_tab (k : Nat) : ∀ f te, (bodegaref1_SameWords_C k).tab f = some te → CallOk Try.prog f te := tab_nil
noncomputable def bodegaref1_SameWords_ac (k : Nat) : AC := (.sq .rg (.sq (.sq .rg (.cd (.sq .rg .nx) .nx)) (.sq (.sq .rg (.bk (.lp [(0, .va (.list (.int .u64)) .s), (1, .va (.list (.int .u64)) .s), (5, .va (.int .i64) .s)] [(.ret, [(4, .va .bool .s)]), (.exit 0, [])] (fun s => bodegaref1_SameWords_L1 k s.1 s.2.1 s.2.2.1) (.sq (.sq .rg (.cd .nx .nx)) (.sq (.bk (.sq .rg (.cd (.sq .rg .nx) .nx))) .rg))))) (.sq .rg .nx))))
theorem bodegaref1_SameWords_fix (k : Nat) : acFix (bodegaref1_SameWords_C k) k 26 (bodegaref1_SameWords_ac k) bodegaref1_SameWords_code = bodegaref1_SameWords_ac k := by kernel_rfl
theorem bodegaref1_SameWords_eq (k : Nat) (s : bodegaref1_SameWords_sig.S) : fnEv (bodegaref1_SameWords_C k) k bodegaref1_SameWords_sig Try.f41 bodegaref1_SameWords_code (bodegaref1_SameWords_ac k) s = (bodegaref1_SameWords_te k).F s := by kernel_rfl
theorem bodegaref1_SameWords_ok (k : Nat) : CallOk Try.prog 41 (bodegaref1_SameWords_te k) :=
  fn_ok (C := bodegaref1_SameWords_C k) (code := bodegaref1_SameWords_code) (g := bodegaref1_SameWords_sig) (k := k) (Fn := (bodegaref1_SameWords_te k).F) mixed (tysOk _) (eqsOk _) (bodegaref1_SameWords_tab k) Try.func41 (by kernel_rfl) (by kernel_rfl) (of_decide_eq_true (by kernel_rfl)) (by kernel_rfl)
    (fun s q h => ⟨bodegaref1_SameWords_ac k, ok_of_fix _ _ (bodegaref1_SameWords_fix k), (bodegaref1_SameWords_eq k s).trans h⟩)

/-! #### bodega/bodegaref4.Same -/
noncomputable def bodegaref4_Same (k : Nat) (a_0 : TVerb) (b_1 : TVerb) : Option (Bool × Unit) :=
  bif (bif (bif (bif (bif (!(decide (a_0.1 = b_1.1))) then true else (!(decide (a_0.2.1 = b_1.2.1)))) then true else (!(decide (a_0.2.2.1 = b_1.2.2.1)))) then true else (!(decide (a_0.2.2.2.2.2.2.2.1 = b_1.2.2.2.2.2.2.2.1)))) then true else (!(decide (a_0.2.2.2.2.2.2.2.2.1 = b_1.2.2.2.2.2.2.2.2.1)))) then
    some (false, ())
  else
    bif (decide (a_0.1 = (1:Int))) then
      some ((decide (a_0.2.2.2.1 = b_1.2.2.2.1)), ())
    else
      bif (decide (a_0.1 = (2:Int))) then
        Option.bind (bodegaref1_SameWords k a_0.2.2.2.2.2.2.1 b_1.2.2.2.2.2.2.1) fun r1 =>
        some (r1.1, ())
      else
        bif (decide (a_0.1 = (3:Int))) then
          some ((bif (decide (a_0.2.2.2.2.1 = b_1.2.2.2.2.1)) then (decide (a_0.2.2.2.2.2.1 = b_1.2.2.2.2.2.1)) else false), ())
        else
          bif (decide (a_0.1 = (4:Int))) then
            some ((decide (a_0.2.2.2.2.2.1 = b_1.2.2.2.2.2.1)), ())
          else
            Option.bind (bif (bif (bif (decide (a_0.2.2.2.1 = b_1.2.2.2.1)) then (decide (a_0.2.2.2.2.1 = b_1.2.2.2.2.1)) else false) then (decide (a_0.2.2.2.2.2.1 = b_1.2.2.2.2.2.1)) else false) then bodegaref1_SameWords k a_0.2.2.2.2.2.2.1 b_1.2.2.2.2.2.2.1 else some (false, ())) fun r2 =>
            some ((bif (bif (bif (decide (a_0.2.2.2.1 = b_1.2.2.2.1)) then (decide (a_0.2.2.2.2.1 = b_1.2.2.2.2.1)) else false) then (decide (a_0.2.2.2.2.2.1 = b_1.2.2.2.2.2.1)) else false) then r2.1 else false), ())
def bodegaref4_Same_sig : Sig := ⟨[⟨false, (.pair (.int .i64) (.pair (.int .i64) (.pair (.int .i64) (.pair (.int .i64) (.pair (.int .u64) (.pair (.int .u64) (.pair (.list (.int .u64)) (.pair (.int .u64) (.pair (.int .i64) .unit))))))))), .s, .s⟩, ⟨false, (.pair (.int .i64) (.pair (.int .i64) (.pair (.int .i64) (.pair (.int .i64) (.pair (.int .u64) (.pair (.int .u64) (.pair (.list (.int .u64)) (.pair (.int .u64) (.pair (.int .i64) .unit))))))))), .s, .s⟩], [(.bool, .s)]⟩
noncomputable def bodegaref4_Same_te (k : Nat) : TE := ⟨bodegaref4_Same_sig, fun s => bodegaref4_Same k s.1 s.2.1⟩
noncomputable def bodegaref4_Same_C (k : Nat) : Ctx := cx [(41, bodegaref1_SameWords_te k)]
noncomputable def bodegaref4_Same_code : Code := Try.f31.body.getD .skip
theorem bodegaref4_Same_tab (k : Nat) : ∀ f te, (bodegaref4_Same_C k).tab f = some te → CallOk Try.prog f te := tab_cons (bodegaref1_SameWords_ok k) (tab_nil)
noncomputable def bodegaref4_Same_ac (_k : Nat) : AC := (.sq .rg (.sq (.sq .rg (.cd (.sq .rg .nx) .nx)) (.sq (.sq .rg (.bk (.sq .rg (.cd (.sq .rg .nx) (.sq .rg (.cd (.sq .rg .nx) (.sq .rg (.cd (.sq .rg .nx) (.sq .rg (.cd (.sq .rg .nx) .nx)))))))))) (.sq .rg .nx))))
theorem bodegaref4_Same_fix (k : Nat) : acFix (bodegaref4_Same_C k) k 101 (bodegaref4_Same_ac k) bodegaref4_Same_code = bodegaref4_Same_ac k := by kernel_rfl
theorem bodegaref4_Same_eq (k : Nat) (s : bodegaref4_Same_sig.S) : fnEv (bodegaref4_Same_C k) k bodegaref4_Same_sig Try.f31 bodegaref4_Same_code (bodegaref4_Same_ac k) s = (bodegaref4_Same_te k).F s := by kernel_rfl
theorem bodegaref4_Same_ok (k : Nat) : CallOk Try.prog 31 (bodegaref4_Same_te k) :=
  fn_ok (C := bodegaref4_Same_C k) (code := bodegaref4_Same_code) (g := bodegaref4_Same_sig) (k := k) (Fn := (bodegaref4_Same_te k).F) mixed (tysOk _) (eqsOk _) (bodegaref4_Same_tab k) Try.func31 (by kernel_rfl) (by kernel_rfl) (of_decide_eq_true (by kernel_rfl)) (by kernel_rfl)
    (fun s q h => ⟨bodegaref4_Same_ac k, ok_of_fix _ _ (bodegaref4_Same_fix k), (bodegaref4_Same_eq k s).trans h⟩)

/-! #### bodega/bodegalaw10.ViewMembers -/
noncomputable def bodegalaw10_ViewMembers_L1 (k : Nat) (node_2 : Int) (t_4 : Bool) (v_6 : TView) (r_7 : TRaw) (m_9 : TMember) (x_11 : TVerb) (i_13 : Int) : Option ((Int × Bool × TView × TRaw × TMember × TVerb × Int × Unit) ⊕ ((Bool × Unit) ⊕ (Unit))) :=
  bif (decide (i_13 < (2:Int))) then
    Option.bind (view_Primary k v_6) fun r1 =>
    bif ((decide ((0:Int) ≤ (0:Int)) && decide ((0:Int) < (v_6.2.1.length : Int))) || (!(r1.2.1 && (!(!(r1.2.1 == (decide ((0:Int) < (v_6.2.1.length : Int))))))))) then
      Option.bind (bif (!(bif (bif (!(r1.2.1 == (decide ((0:Int) < (v_6.2.1.length : Int))))) then true else (bif r1.2.1 then (!((decide (r1.1.1 = (v_6.2.1.getD 0 ((0:Int), (0:Int), false, ())).1)) && ((decide (r1.1.2.1 = (v_6.2.1.getD 0 ((0:Int), (0:Int), false, ())).2.1)) && ((r1.1.2.2.1 == (v_6.2.1.getD 0 ((0:Int), (0:Int), false, ())).2.2.1) && true)))) else false)) then true else (bif (!r1.2.1) then (!((decide (r1.1.1 = (0:Int))) && ((decide (r1.1.2.1 = (0:Int))) && ((r1.1.2.2.1 == false) && true)))) else false))) then view_Backups k v_6 else some (([] : (List TMember)), ())) fun r2 =>
      Option.bind (bif (!(bif (bif (bif (!(r1.2.1 == (decide ((0:Int) < (v_6.2.1.length : Int))))) then true else (bif r1.2.1 then (!((decide (r1.1.1 = (v_6.2.1.getD 0 ((0:Int), (0:Int), false, ())).1)) && ((decide (r1.1.2.1 = (v_6.2.1.getD 0 ((0:Int), (0:Int), false, ())).2.1)) && ((r1.1.2.2.1 == (v_6.2.1.getD 0 ((0:Int), (0:Int), false, ())).2.2.1) && true)))) else false)) then true else (bif (!r1.2.1) then (!((decide (r1.1.1 = (0:Int))) && ((decide (r1.1.2.1 = (0:Int))) && ((r1.1.2.2.1 == false) && true)))) else false)) then true else (!(decide ((r2.1.length : Int) = (bif (decide ((0:Int) < (IntKind.i64.wrap ((v_6.2.1.length : Int) - (1:Int))))) then (IntKind.i64.wrap ((v_6.2.1.length : Int) - (1:Int))) else (0:Int))))))) then bodegalaw10_awake k  else some (false, ())) fun r3 =>
      bif (bif (bif (bif (bif (!(r1.2.1 == (decide ((0:Int) < (v_6.2.1.length : Int))))) then true else (bif r1.2.1 then (!((decide (r1.1.1 = (v_6.2.1.getD 0 ((0:Int), (0:Int), false, ())).1)) && ((decide (r1.1.2.1 = (v_6.2.1.getD 0 ((0:Int), (0:Int), false, ())).2.1)) && ((r1.1.2.2.1 == (v_6.2.1.getD 0 ((0:Int), (0:Int), false, ())).2.2.1) && true)))) else false)) then true else (bif (!r1.2.1) then (!((decide (r1.1.1 = (0:Int))) && ((decide (r1.1.2.1 = (0:Int))) && ((r1.1.2.2.1 == false) && true)))) else false)) then true else (!(decide ((r2.1.length : Int) = (bif (decide ((0:Int) < (IntKind.i64.wrap ((v_6.2.1.length : Int) - (1:Int))))) then (IntKind.i64.wrap ((v_6.2.1.length : Int) - (1:Int))) else (0:Int)))))) then true else (!r3.1)) then
        some (.inr (.inl (false, ())))
      else
        Option.bind (bif r1.2.1 then view_Backups k v_6 else some (([] : (List TMember)), ())) fun r4 =>
        bif ((decide ([r1.1].length + r4.1.length < 1073741824)) || (!r1.2.1)) then
          Option.bind (bif r1.2.1 then bodegalaw10_same k ([r1.1] ++ r4.1) v_6.2.1 else some (false, ())) fun r5 =>
          Option.bind (bif (!(bif r1.2.1 then (!r5.1) else false)) then view_Full k v_6 else some (([] : (List TMember)), ())) fun r6 =>
          Option.bind (bif (!(bif r1.2.1 then (!r5.1) else false)) then bodegaref9_Full k v_6 else some (([] : (List TMember)), ())) fun r7 =>
          Option.bind (bif (!(bif r1.2.1 then (!r5.1) else false)) then bodegalaw10_same k r6.1 r7.1 else some (false, ())) fun r8 =>
          bif (bif (bif r1.2.1 then (!r5.1) else false) then true else (!r8.1)) then
            some (.inr (.inl (false, ())))
          else
            Option.bind (view_Find k v_6 node_2) fun r9 =>
            Option.bind (bodegaref9_Find k v_6 node_2) fun r10 =>
            Option.bind (view_Find k v_6 m_9.1) fun r11 =>
            Option.bind (bodegaref9_Find k v_6 m_9.1) fun r12 =>
            Option.bind (bif (!(bif (bif (bif (!((decide (r9.1.1 = r10.1.1)) && ((decide (r9.1.2.1 = r10.1.2.1)) && ((r9.1.2.2.1 == r10.1.2.2.1) && true)))) then true else (!(r9.2.1 == r10.2.1))) then true else (!((decide (r11.1.1 = r12.1.1)) && ((decide (r11.1.2.1 = r12.1.2.1)) && ((r11.1.2.2.1 == r12.1.2.2.1) && true))))) then true else (!(r11.2.1 == r12.2.1)))) then view_Address k v_6 m_9 t_4 x_11 else some (((0:Int), (0:Int), (0:Int), (0:Int), (0:Int), (0:Int), ([] : (List Int)), (0:Int), (0:Int), ()), ())) fun r13 =>
            Option.bind (bif (!(bif (bif (bif (!((decide (r9.1.1 = r10.1.1)) && ((decide (r9.1.2.1 = r10.1.2.1)) && ((r9.1.2.2.1 == r10.1.2.2.1) && true)))) then true else (!(r9.2.1 == r10.2.1))) then true else (!((decide (r11.1.1 = r12.1.1)) && ((decide (r11.1.2.1 = r12.1.2.1)) && ((r11.1.2.2.1 == r12.1.2.2.1) && true))))) then true else (!(r11.2.1 == r12.2.1)))) then bodegaref9_Address k v_6 m_9 t_4 x_11 else some (((0:Int), (0:Int), (0:Int), (0:Int), (0:Int), (0:Int), ([] : (List Int)), (0:Int), (0:Int), ()), ())) fun r14 =>
            Option.bind (bif (!(bif (bif (bif (!((decide (r9.1.1 = r10.1.1)) && ((decide (r9.1.2.1 = r10.1.2.1)) && ((r9.1.2.2.1 == r10.1.2.2.1) && true)))) then true else (!(r9.2.1 == r10.2.1))) then true else (!((decide (r11.1.1 = r12.1.1)) && ((decide (r11.1.2.1 = r12.1.2.1)) && ((r11.1.2.2.1 == r12.1.2.2.1) && true))))) then true else (!(r11.2.1 == r12.2.1)))) then bodegaref4_Same k r13.1 r14.1 else some (false, ())) fun r15 =>
            bif (bif (bif (bif (bif (!((decide (r9.1.1 = r10.1.1)) && ((decide (r9.1.2.1 = r10.1.2.1)) && ((r9.1.2.2.1 == r10.1.2.2.1) && true)))) then true else (!(r9.2.1 == r10.2.1))) then true else (!((decide (r11.1.1 = r12.1.1)) && ((decide (r11.1.2.1 = r12.1.2.1)) && ((r11.1.2.2.1 == r12.1.2.2.1) && true))))) then true else (!(r11.2.1 == r12.2.1))) then true else (!r15.1)) then
              some (.inr (.inl (false, ())))
            else
              Option.bind (bodegalaw10_of k r_7) fun r16 =>
              Option.bind (bodegahand_Pick k node_2 (7:Int)) fun r17 =>
              some (.inl ((IntKind.i64.wrap (r17.1 - (1:Int))), t_4, r16.1, r_7, m_9, x_11, (IntKind.i64.wrap (i_13 + (1:Int))), ()))
        else none
    else none
  else
    some (.inr (.inr ()))
noncomputable def bodegalaw10_ViewMembers_L1_it (k : Nat) (node_2 : Int) (t_4 : Bool) (v_6 : TView) (r_7 : TRaw) (m_9 : TMember) (x_11 : TVerb) (i_13 : Int) : Option ((Bool × Unit) ⊕ (Unit)) :=
  iterO (fun s : Int × Bool × TView × TRaw × TMember × TVerb × Int × Unit => bodegalaw10_ViewMembers_L1 k s.1 s.2.1 s.2.2.1 s.2.2.2.1 s.2.2.2.2.1 s.2.2.2.2.2.1 s.2.2.2.2.2.2.1) k (node_2, t_4, v_6, r_7, m_9, x_11, i_13, ())
noncomputable def bodegalaw10_ViewMembers (k : Nat) (v_0 : TView) (r_1 : TRaw) (node_2 : Int) (m_3 : TMember) (t_4 : Bool) (x_5 : TVerb) : Option (Bool × Unit) :=
  bif (bif (bif (decide ((12:Int) < (v_0.2.1.length : Int))) then true else (decide ((8:Int) < (r_1.2.2.2.2.2.1.length : Int)))) then true else (decide ((50:Int) < (x_5.2.2.2.2.2.2.1.length : Int)))) then
    some (true, ())
  else
    Option.bind (bodegalaw10_ViewMembers_L1_it k node_2 t_4 v_0 r_1 m_3 x_5 (0:Int)) fun o18 =>
    Sum.elim (fun o19 =>
      some (o19.1, ())) (fun _o20 =>
      some (true, ())) o18
def bodegalaw10_ViewMembers_sig : Sig := ⟨[⟨false, (.pair (.int .i64) (.pair (.list (.pair (.int .i64) (.pair (.int .i64) (.pair .bool .unit)))) .unit)), .s, .s⟩, ⟨false, (.pair (.int .i64) (.pair (.int .i64) (.pair (.int .i64) (.pair (.int .i64) (.pair (.int .i64) (.pair (.list (.int .i64)) .unit)))))), .s, .s⟩, ⟨false, (.int .i64), .s, .s⟩, ⟨false, (.pair (.int .i64) (.pair (.int .i64) (.pair .bool .unit))), .s, .s⟩, ⟨false, .bool, .s, .s⟩, ⟨false, (.pair (.int .i64) (.pair (.int .i64) (.pair (.int .i64) (.pair (.int .i64) (.pair (.int .u64) (.pair (.int .u64) (.pair (.list (.int .u64)) (.pair (.int .u64) (.pair (.int .i64) .unit))))))))), .s, .s⟩], [(.bool, .s)]⟩
noncomputable def bodegalaw10_ViewMembers_te (k : Nat) : TE := ⟨bodegalaw10_ViewMembers_sig, fun s => bodegalaw10_ViewMembers k s.1 s.2.1 s.2.2.1 s.2.2.2.1 s.2.2.2.2.1 s.2.2.2.2.2.1⟩
noncomputable def bodegalaw10_ViewMembers_C (k : Nat) : Ctx := cx [(9, bodegalaw10_of_te k), (10, bodegahand_Pick_te k), (13, bodegalaw10_awake_te k), (22, bodegaref9_Find_te k), (25, view_Find_te k), (26, view_Primary_te k), (27, view_Backups_te k), (28, bodegalaw10_same_te k), (29, view_Full_te k), (30, bodegaref9_Full_te k), (31, bodegaref4_Same_te k), (32, view_Address_te k), (33, bodegaref9_Address_te k)]
noncomputable def bodegalaw10_ViewMembers_code : Code := Try.f8.body.getD .skip
theorem bodegalaw10_ViewMembers_tab (k : Nat) : ∀ f te, (bodegalaw10_ViewMembers_C k).tab f = some te → CallOk Try.prog f te := tab_cons (bodegalaw10_of_ok k) (tab_cons (bodegahand_Pick_ok k) (tab_cons (bodegalaw10_awake_ok k) (tab_cons (bodegaref9_Find_ok k) (tab_cons (view_Find_ok k) (tab_cons (view_Primary_ok k) (tab_cons (view_Backups_ok k) (tab_cons (bodegalaw10_same_ok k) (tab_cons (view_Full_ok k) (tab_cons (bodegaref9_Full_ok k) (tab_cons (bodegaref4_Same_ok k) (tab_cons (view_Address_ok k) (tab_cons (bodegaref9_Address_ok k) (tab_nil)))))))))))))
noncomputable def bodegalaw10_ViewMembers_ac (k : Nat) : AC := (.sq .rg (.sq (.sq .rg (.cd (.sq .rg .nx) .nx)) (.sq (.sq .rg (.bk (.lp [(2, .va (.int .i64) .s), (4, .va .bool .s), (6, .bo (.pair (.int .i64) (.pair (.list (.pair (.int .i64) (.pair (.int .i64) (.pair .bool .unit)))) .unit)) .s), (7, .bo (.pair (.int .i64) (.pair (.int .i64) (.pair (.int .i64) (.pair (.int .i64) (.pair (.int .i64) (.pair (.list (.int .i64)) .unit)))))) .s), (9, .bo (.pair (.int .i64) (.pair (.int .i64) (.pair .bool .unit))) .s), (11, .bo (.pair (.int .i64) (.pair (.int .i64) (.pair (.int .i64) (.pair (.int .i64) (.pair (.int .u64) (.pair (.int .u64) (.pair (.list (.int .u64)) (.pair (.int .u64) (.pair (.int .i64) .unit))))))))) .s), (13, .va (.int .i64) .s)] [(.ret, [(12, .va .bool .s)]), (.exit 0, [])] (fun s => bodegalaw10_ViewMembers_L1 k s.1 s.2.1 s.2.2.1 s.2.2.2.1 s.2.2.2.2.1 s.2.2.2.2.2.1 s.2.2.2.2.2.2.1) (.sq (.sq .rg (.cd .nx .nx)) (.sq (.bk (.sq .rg (.sq (.sq .rg (.cd (.sq .rg .nx) .nx)) (.sq (.sq .rg (.cd (.sq .rg .nx) .nx)) (.sq .rg (.sq .rg (.sq .rg (.sq .rg (.sq (.sq .rg (.cd (.sq .rg .nx) .nx)) .rg))))))))) .rg))))) (.sq .rg .nx))))
theorem bodegalaw10_ViewMembers_fix (k : Nat) : acFix (bodegalaw10_ViewMembers_C k) k 173 (bodegalaw10_ViewMembers_ac k) bodegalaw10_ViewMembers_code = bodegalaw10_ViewMembers_ac k := by kernel_rfl
theorem bodegalaw10_ViewMembers_eq (k : Nat) (s : bodegalaw10_ViewMembers_sig.S) : fnEv (bodegalaw10_ViewMembers_C k) k bodegalaw10_ViewMembers_sig Try.f8 bodegalaw10_ViewMembers_code (bodegalaw10_ViewMembers_ac k) s = (bodegalaw10_ViewMembers_te k).F s := by kernel_rfl
theorem bodegalaw10_ViewMembers_ok (k : Nat) : CallOk Try.prog 8 (bodegalaw10_ViewMembers_te k) :=
  fn_ok (C := bodegalaw10_ViewMembers_C k) (code := bodegalaw10_ViewMembers_code) (g := bodegalaw10_ViewMembers_sig) (k := k) (Fn := (bodegalaw10_ViewMembers_te k).F) mixed (tysOk _) (eqsOk _) (bodegalaw10_ViewMembers_tab k) Try.func8 (by kernel_rfl) (by kernel_rfl) (of_decide_eq_true (by kernel_rfl)) (by kernel_rfl)
    (fun s q h => ⟨bodegalaw10_ViewMembers_ac k, ok_of_fix _ _ (bodegalaw10_ViewMembers_fix k), (bodegalaw10_ViewMembers_eq k s).trans h⟩)

end Go.Proofs.Ytjbnedjlcpdekaa.N
