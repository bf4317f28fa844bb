import Derived.Test.YtjbnedjlcpdekaaN2

set_option maxRecDepth 1000000
namespace Go.Proofs.Ytjbnedjlcpdekaa.N
open Go.VL Go.Proofs

/-! #### bodega/bodegaref9.Find -/
noncomputable def bodegaref9_Find_L1 (_k : Nat) (node_1 : Int) (v_2 : TView) (t_4 : TMember) (i_6 : Int) : Option ((Int × TView × TMember × Int × Unit) ⊕ ((TMember × Bool × Unit) ⊕ (TMember × Unit))) :=
  bif (decide (i_6 < (v_2.2.1.length : Int))) then
    bif (decide ((0:Int) ≤ i_6) && decide (i_6 < (v_2.2.1.length : Int))) then
      bif (decide ((v_2.2.1.getD (i_6.toNat) ((0:Int), (0:Int), false, ())).1 = node_1)) then
        bif (decide ((0:Int) ≤ i_6) && decide (i_6 < (v_2.2.1.length : Int))) then
          some (.inr (.inl ((v_2.2.1.getD (i_6.toNat) ((0:Int), (0:Int), false, ())), true, ())))
        else none
      else
        some (.inl (node_1, v_2, t_4, (IntKind.i64.wrap (i_6 + (1:Int))), ()))
    else none
  else
    some (.inr (.inr (t_4, ())))
noncomputable def bodegaref9_Find_L1_it (k : Nat) (node_1 : Int) (v_2 : TView) (t_4 : TMember) (i_6 : Int) : Option ((TMember × Bool × Unit) ⊕ (TMember × Unit)) :=
  iterO (fun s : Int × TView × TMember × Int × Unit => bodegaref9_Find_L1 k s.1 s.2.1 s.2.2.1 s.2.2.2.1) k (node_1, v_2, t_4, i_6, ())
noncomputable def bodegaref9_Find (k : Nat) (v_0 : TView) (node_1 : Int) : Option (TMember × Bool × Unit) :=
  Option.bind (bodegaref9_Find_L1_it k node_1 v_0 ((0:Int), (0:Int), false, ()) (0:Int)) fun o1 =>
  Sum.elim (fun o2 =>
    some (o2.1, o2.2.1, ())) (fun _o3 =>
    some (((0:Int), (0:Int), false, ()), false, ())) o1
def bodegaref9_Find_sig : Sig := ⟨[⟨false, (.pair (.int .i64) (.pair (.list (.pair (.int .i64) (.pair (.int .i64) (.pair .bool .unit)))) .unit)), .s, .s⟩, ⟨false, (.int .i64), .s, .s⟩], [((.pair (.int .i64) (.pair (.int .i64) (.pair .bool .unit))), .s), (.bool, .s)]⟩
noncomputable def bodegaref9_Find_te (k : Nat) : TE := ⟨bodegaref9_Find_sig, fun s => bodegaref9_Find k s.1 s.2.1⟩
noncomputable def bodegaref9_Find_C (_k : Nat) : Ctx := cx []
noncomputable def bodegaref9_Find_code : Code := Try.f22.body.getD .skip
theorem bodegaref9_Find_tab (k : Nat) : ∀ f te, (bodegaref9_Find_C k).tab f = some te → CallOk Try.prog f te := tab_nil
noncomputable def bodegaref9_Find_ac (k : Nat) : AC := (.sq .rg (.sq (.sq .rg (.bk (.lp [(1, .va (.int .i64) .s), (2, .bo (.pair (.int .i64) (.pair (.list (.pair (.int .i64) (.pair (.int .i64) (.pair .bool .unit)))) .unit)) .s), (4, .bo (.pair (.int .i64) (.pair (.int .i64) (.pair .bool .unit))) .s), (6, .va (.int .i64) .s)] [(.ret, [(4, .bo (.pair (.int .i64) (.pair (.int .i64) (.pair .bool .unit))) .s), (5, .va .bool .s)]), (.exit 0, [(4, .bo (.pair (.int .i64) (.pair (.int .i64) (.pair .bool .unit))) .s)])] (fun s => bodegaref9_Find_L1 k s.1 s.2.1 s.2.2.1 s.2.2.2.1) (.sq (.sq .rg (.cd .nx .nx)) (.sq (.bk (.sq .rg (.cd (.sq .rg .nx) .nx))) .rg))))) (.sq .rg .nx)))
theorem bodegaref9_Find_fix (k : Nat) : acFix (bodegaref9_Find_C k) k 28 (bodegaref9_Find_ac k) bodegaref9_Find_code = bodegaref9_Find_ac k := by kernel_rfl
theorem bodegaref9_Find_eq (k : Nat) (s : bodegaref9_Find_sig.S) : fnEv (bodegaref9_Find_C k) k bodegaref9_Find_sig Try.f22 bodegaref9_Find_code (bodegaref9_Find_ac k) s = (bodegaref9_Find_te k).F s := by kernel_rfl
theorem bodegaref9_Find_ok (k : Nat) : CallOk Try.prog 22 (bodegaref9_Find_te k) :=
  fn_ok (C := bodegaref9_Find_C k) (code := bodegaref9_Find_code) (g := bodegaref9_Find_sig) (k := k) (Fn := (bodegaref9_Find_te k).F) mixed (tysOk _) (eqsOk _) (bodegaref9_Find_tab k) Try.func22 (by kernel_rfl) (by kernel_rfl) (of_decide_eq_true (by kernel_rfl)) (by kernel_rfl)
    (fun s q h => ⟨bodegaref9_Find_ac k, ok_of_fix _ _ (bodegaref9_Find_fix k), (bodegaref9_Find_eq k s).trans h⟩)

/-! #### bodega/view.Find -/
noncomputable def view_Find_L1 (_k : Nat) (node_1 : Int) (t_4 : TMember) (t_9 : (List TMember)) (t_10 : Int) (t_11 : Int) : Option ((Int × TMember × (List TMember) × Int × Int × Unit) ⊕ ((TMember × Bool × Unit) ⊕ (TMember × Unit))) :=
  bif (decide (t_11 < t_10)) then
    bif (decide ((0:Int) ≤ t_11) && decide (t_11 < (t_9.length : Int))) then
      bif (decide ((t_9.getD (t_11.toNat) ((0:Int), (0:Int), false, ())).1 = node_1)) then
        some (.inr (.inl ((t_9.getD (t_11.toNat) ((0:Int), (0:Int), false, ())), true, ())))
      else
        some (.inl (node_1, t_4, t_9, t_10, (IntKind.i64.wrap (t_11 + (1:Int))), ()))
    else none
  else
    some (.inr (.inr (t_4, ())))
noncomputable def view_Find_L1_it (k : Nat) (node_1 : Int) (t_4 : TMember) (t_9 : (List TMember)) (t_10 : Int) (t_11 : Int) : Option ((TMember × Bool × Unit) ⊕ (TMember × Unit)) :=
  iterO (fun s : Int × TMember × (List TMember) × Int × Int × Unit => view_Find_L1 k s.1 s.2.1 s.2.2.1 s.2.2.2.1 s.2.2.2.2.1) k (node_1, t_4, t_9, t_10, t_11, ())
noncomputable def view_Find (k : Nat) (v_0 : TView) (node_1 : Int) : Option (TMember × Bool × Unit) :=
  Option.bind (view_Find_L1_it k node_1 ((0:Int), (0:Int), false, ()) v_0.2.1 (v_0.2.1.length : Int) (0:Int)) fun o1 =>
  Sum.elim (fun o2 =>
    some (o2.1, o2.2.1, ())) (fun _o3 =>
    some (((0:Int), (0:Int), false, ()), false, ())) o1
def view_Find_sig : Sig := ⟨[⟨false, (.pair (.int .i64) (.pair (.list (.pair (.int .i64) (.pair (.int .i64) (.pair .bool .unit)))) .unit)), .s, .s⟩, ⟨false, (.int .i64), .s, .s⟩], [((.pair (.int .i64) (.pair (.int .i64) (.pair .bool .unit))), .s), (.bool, .s)]⟩
noncomputable def view_Find_te (k : Nat) : TE := ⟨view_Find_sig, fun s => view_Find k s.1 s.2.1⟩
noncomputable def view_Find_C (_k : Nat) : Ctx := cx []
noncomputable def view_Find_code : Code := Try.f25.body.getD .skip
theorem view_Find_tab (k : Nat) : ∀ f te, (view_Find_C k).tab f = some te → CallOk Try.prog f te := tab_nil
noncomputable def view_Find_ac (k : Nat) : AC := (.sq .rg (.sq (.sq .rg (.bk (.lp [(1, .va (.int .i64) .s), (4, .bo (.pair (.int .i64) (.pair (.int .i64) (.pair .bool .unit))) .s), (9, .va (.list (.pair (.int .i64) (.pair (.int .i64) (.pair .bool .unit)))) .s), (10, .va (.int .i64) .s), (11, .va (.int .i64) .s)] [(.ret, [(4, .bo (.pair (.int .i64) (.pair (.int .i64) (.pair .bool .unit))) .s), (5, .va .bool .s)]), (.exit 0, [(4, .bo (.pair (.int .i64) (.pair (.int .i64) (.pair .bool .unit))) .s)])] (fun s => view_Find_L1 k s.1 s.2.1 s.2.2.1 s.2.2.2.1 s.2.2.2.2.1) (.sq .rg (.sq (.cd .nx .nx) (.sq (.bk (.sq .rg (.sq .rg (.cd (.sq .rg .nx) .nx)))) .rg)))))) (.sq .rg .nx)))
theorem view_Find_fix (k : Nat) : acFix (view_Find_C k) k 22 (view_Find_ac k) view_Find_code = view_Find_ac k := by kernel_rfl
theorem view_Find_eq (k : Nat) (s : view_Find_sig.S) : fnEv (view_Find_C k) k view_Find_sig Try.f25 view_Find_code (view_Find_ac k) s = (view_Find_te k).F s := by kernel_rfl
theorem view_Find_ok (k : Nat) : CallOk Try.prog 25 (view_Find_te k) :=
  fn_ok (C := view_Find_C k) (code := view_Find_code) (g := view_Find_sig) (k := k) (Fn := (view_Find_te k).F) mixed (tysOk _) (eqsOk _) (view_Find_tab k) Try.func25 (by kernel_rfl) (by kernel_rfl) (of_decide_eq_true (by kernel_rfl)) (by kernel_rfl)
    (fun s q h => ⟨view_Find_ac k, ok_of_fix _ _ (view_Find_fix k), (view_Find_eq k s).trans h⟩)

/-! #### bodega/view.Propose -/
noncomputable def view_Propose_L1 (k : Nat) (opened_1 : Bool) (boots_2 : (List Int)) (v_3 : TView) (t_6 : TView) (next_9 : TView) (t_26 : (List Int)) (t_27 : Int) (t_28 : Int) : Option ((Bool × (List Int) × TView × TView × TView × (List Int) × Int × Int × Unit) ⊕ ((TView × Int × Unit) ⊕ ((List Int) × TView × TView × Unit))) :=
  bif (decide (t_28 < t_27)) then
    bif (decide ((0:Int) ≤ t_28) && decide (t_28 < (t_26.length : Int))) then
      bif (bif (decide ((t_26.getD (t_28.toNat) (0:Int)) < (0:Int))) then true else (decide ((31:Int) < (t_26.getD (t_28.toNat) (0:Int))))) then
        some (.inr (.inl (((0:Int), ([] : (List TMember)), ()), (2:Int), ())))
      else
        bif (decide ((t_26.getD (t_28.toNat) (0:Int)) = (0:Int))) then
          some (.inl (opened_1, boots_2, v_3, t_6, next_9, t_26, t_27, (IntKind.i64.wrap (t_28 + (1:Int))), ()))
        else
          Option.bind (view_Find k v_3 t_28) fun r2 =>
          bif (decide (next_9.2.1.length + [(t_28, (t_26.getD (t_28.toNat) (0:Int)), (bif (bif r2.2.1 then (decide (r2.1.2.1 = (t_26.getD (t_28.toNat) (0:Int)))) else false) then (bif r2.1.2.2.1 then true else opened_1) else false), ())].length < 1073741824)) then
            some (.inl (opened_1, boots_2, v_3, t_6, (next_9.1, (next_9.2.1 ++ [(t_28, (t_26.getD (t_28.toNat) (0:Int)), (bif (bif r2.2.1 then (decide (r2.1.2.1 = (t_26.getD (t_28.toNat) (0:Int)))) else false) then (bif r2.1.2.2.1 then true else opened_1) else false), ())]), next_9.2.2), t_26, t_27, (IntKind.i64.wrap (t_28 + (1:Int))), ()))
          else none
    else none
  else
    some (.inr (.inr (boots_2, t_6, next_9, ())))
noncomputable def view_Propose_L1_it (k : Nat) (opened_1 : Bool) (boots_2 : (List Int)) (v_3 : TView) (t_6 : TView) (next_9 : TView) (t_26 : (List Int)) (t_27 : Int) (t_28 : Int) : Option ((TView × Int × Unit) ⊕ ((List Int) × TView × TView × Unit)) :=
  iterO (fun s : Bool × (List Int) × TView × TView × TView × (List Int) × Int × Int × Unit => view_Propose_L1 k s.1 s.2.1 s.2.2.1 s.2.2.2.1 s.2.2.2.2.1 s.2.2.2.2.2.1 s.2.2.2.2.2.2.1 s.2.2.2.2.2.2.2.1) k (opened_1, boots_2, v_3, t_6, next_9, t_26, t_27, t_28, ())
noncomputable def view_Propose (k : Nat) (v_0 : TView) (opened_1 : Bool) (boots_2 : (List Int)) : Option (TView × Int × Unit) :=
  Option.bind (view_Valid k v_0 (boots_2.length : Int)) fun r1 =>
  bif (!(decide (r1.1 = (0:Int)))) then
    some (((0:Int), ([] : (List TMember)), ()), r1.1, ())
  else
    Option.bind (view_Propose_L1_it k opened_1 boots_2 v_0 ((0:Int), ([] : (List TMember)), ()) ((IntKind.i64.wrap (v_0.1 + (1:Int))), ([] : (List TMember)), ()) boots_2 (boots_2.length : Int) (0:Int)) fun o3 =>
    Sum.elim (fun o4 =>
      some (o4.1, o4.2.1, ())) (fun o5 =>
      bif (decide ((16:Int) ≤ o5.2.2.1.1)) then
        some (((0:Int), ([] : (List TMember)), ()), (12:Int), ())
      else
        bif (decide ((IntKind.i64.wrap ((2:Int) * (o5.2.2.1.2.1.length : Int))) ≤ (o5.1.length : Int))) then
          some (((0:Int), ([] : (List TMember)), ()), (9:Int), ())
        else
          Option.bind (slices_ContainsFunc_isFull k o5.2.2.1.2.1) fun r6 =>
          bif (!r6.1) then
            some (((0:Int), ([] : (List TMember)), ()), (13:Int), ())
          else
            some (o5.2.2.1, (0:Int), ())) o3
def view_Propose_sig : Sig := ⟨[⟨false, (.pair (.int .i64) (.pair (.list (.pair (.int .i64) (.pair (.int .i64) (.pair .bool .unit)))) .unit)), .s, .s⟩, ⟨false, .bool, .s, .s⟩, ⟨false, (.list (.int .i64)), .s, .s⟩], [((.pair (.int .i64) (.pair (.list (.pair (.int .i64) (.pair (.int .i64) (.pair .bool .unit)))) .unit)), (.p .s (.p (.o .s) .s))), ((.int .i64), .s)]⟩
noncomputable def view_Propose_te (k : Nat) : TE := ⟨view_Propose_sig, fun s => view_Propose k s.1 s.2.1 s.2.2.1⟩
noncomputable def view_Propose_C (k : Nat) : Ctx := cx [(19, view_Valid_te k), (25, view_Find_te k), (36, slices_ContainsFunc_te k)]
noncomputable def view_Propose_code : Code := Try.f23.body.getD .skip
theorem view_Propose_tab (k : Nat) : ∀ f te, (view_Propose_C k).tab f = some te → CallOk Try.prog f te := tab_cons (view_Valid_ok k) (tab_cons (view_Find_ok k) (tab_cons (slices_ContainsFunc_ok k) (tab_nil)))
noncomputable def view_Propose_ac (k : Nat) : AC := (.sq .rg (.sq (.sq .rg (.sq .rg (.cd (.sq .rg .nx) .nx))) (.sq .rg (.sq (.sq .rg (.bk (.lp [(1, .va .bool .s), (2, .va (.list (.int .i64)) .s), (3, .bo (.pair (.int .i64) (.pair (.list (.pair (.int .i64) (.pair (.int .i64) (.pair .bool .unit)))) .unit)) .s), (6, .bo (.pair (.int .i64) (.pair (.list (.pair (.int .i64) (.pair (.int .i64) (.pair .bool .unit)))) .unit)) (.p .s (.p (.o .s) .s))), (9, .bo (.pair (.int .i64) (.pair (.list (.pair (.int .i64) (.pair (.int .i64) (.pair .bool .unit)))) .unit)) (.p .s (.p (.o .s) .s))), (26, .va (.list (.int .i64)) .s), (27, .va (.int .i64) .s), (28, .va (.int .i64) .s)] [(.ret, [(6, .bo (.pair (.int .i64) (.pair (.list (.pair (.int .i64) (.pair (.int .i64) (.pair .bool .unit)))) .unit)) (.p .s (.p (.o .s) .s))), (7, .va (.int .i64) .s)]), (.exit 0, [(2, .va (.list (.int .i64)) .s), (6, .bo (.pair (.int .i64) (.pair (.list (.pair (.int .i64) (.pair (.int .i64) (.pair .bool .unit)))) .unit)) (.p .s (.p (.o .s) .s))), (9, .bo (.pair (.int .i64) (.pair (.list (.pair (.int .i64) (.pair (.int .i64) (.pair .bool .unit)))) .unit)) (.p .s (.p (.o .s) .s)))])] (fun s => view_Propose_L1 k s.1 s.2.1 s.2.2.1 s.2.2.2.1 s.2.2.2.2.1 s.2.2.2.2.2.1 s.2.2.2.2.2.2.1 s.2.2.2.2.2.2.2.1) (.sq .rg (.sq (.cd .nx .nx) (.sq (.bk (.sq .rg (.sq (.sq .rg (.cd (.sq .rg .nx) .nx)) (.sq (.sq .rg (.cd .nx .nx)) (.sq .rg .rg))))) .rg)))))) (.sq (.bk (.sq .rg (.cd (.sq .rg .nx) (.sq .rg (.cd (.sq .rg .nx) (.sq .rg (.cd (.sq .rg .nx) .nx))))))) (.sq .rg .nx))))))
theorem view_Propose_fix (k : Nat) : acFix (view_Propose_C k) k 92 (view_Propose_ac k) view_Propose_code = view_Propose_ac k := by kernel_rfl
theorem view_Propose_eq (k : Nat) (s : view_Propose_sig.S) : fnEv (view_Propose_C k) k view_Propose_sig Try.f23 view_Propose_code (view_Propose_ac k) s = (view_Propose_te k).F s := by kernel_rfl
theorem view_Propose_ok (k : Nat) : CallOk Try.prog 23 (view_Propose_te k) :=
  fn_ok (C := view_Propose_C k) (code := view_Propose_code) (g := view_Propose_sig) (k := k) (Fn := (view_Propose_te k).F) mixed (tysOk _) (eqsOk _) (view_Propose_tab k) Try.func23 (by kernel_rfl) (by kernel_rfl) (of_decide_eq_true (by kernel_rfl)) (by kernel_rfl)
    (fun s q h => ⟨view_Propose_ac k, ok_of_fix _ _ (view_Propose_fix k), (view_Propose_eq k s).trans h⟩)

/-! #### bodega/bodegaref9.Majority -/
noncomputable def bodegaref9_Majority (_k : Nat) (nodes_0 : Int) : Option (Int × Unit) :=
  bif (decide (nodes_0 < (1:Int))) then
    some ((0:Int), ())
  else
    some ((IntKind.i64.wrap ((IntKind.i64.wrap (Int.tdiv nodes_0 (2:Int))) + (1:Int))), ())
def bodegaref9_Majority_sig : Sig := ⟨[⟨false, (.int .i64), .s, .s⟩], [((.int .i64), .s)]⟩
noncomputable def bodegaref9_Majority_te (k : Nat) : TE := ⟨bodegaref9_Majority_sig, fun s => bodegaref9_Majority k s.1⟩
noncomputable def bodegaref9_Majority_C (_k : Nat) : Ctx := cx []
noncomputable def bodegaref9_Majority_code : Code := Try.f39.body.getD .skip
theorem bodegaref9_Majority_tab (k : Nat) : ∀ f te, (bodegaref9_Majority_C k).tab f = some te → CallOk Try.prog f te := tab_nil
noncomputable def bodegaref9_Majority_ac (_k : Nat) : AC := (.sq .rg (.sq (.sq .rg (.cd (.sq .rg .nx) .nx)) (.sq .rg .nx)))
theorem bodegaref9_Majority_fix (k : Nat) : acFix (bodegaref9_Majority_C k) k 8 (bodegaref9_Majority_ac k) bodegaref9_Majority_code = bodegaref9_Majority_ac k := by kernel_rfl
theorem bodegaref9_Majority_eq (k : Nat) (s : bodegaref9_Majority_sig.S) : fnEv (bodegaref9_Majority_C k) k bodegaref9_Majority_sig Try.f39 bodegaref9_Majority_code (bodegaref9_Majority_ac k) s = (bodegaref9_Majority_te k).F s := by kernel_rfl
theorem bodegaref9_Majority_ok (k : Nat) : CallOk Try.prog 39 (bodegaref9_Majority_te k) :=
  fn_ok (C := bodegaref9_Majority_C k) (code := bodegaref9_Majority_code) (g := bodegaref9_Majority_sig) (k := k) (Fn := (bodegaref9_Majority_te k).F) mixed (tysOk _) (eqsOk _) (bodegaref9_Majority_tab k) Try.func39 (by kernel_rfl) (by kernel_rfl) (of_decide_eq_true (by kernel_rfl)) (by kernel_rfl)
    (fun s q h => ⟨bodegaref9_Majority_ac k, ok_of_fix _ _ (bodegaref9_Majority_fix k), (bodegaref9_Majority_eq k s).trans h⟩)

/-! #### bodega/bodegaref9.Propose -/
noncomputable def bodegaref9_Propose_L1 (k : Nat) (opened_1 : Bool) (boots_2 : (List Int)) (v_3 : TView) (t_6 : TView) (w_9 : TView) (i_10 : Int) : Option ((Bool × (List Int) × TView × TView × TView × Int × Unit) ⊕ ((TView × Int × Unit) ⊕ ((List Int) × TView × TView × Unit))) :=
  bif (decide (i_10 < (boots_2.length : Int))) then
    bif (decide ((0:Int) ≤ i_10) && decide (i_10 < (boots_2.length : Int))) then
      bif ((decide ((0:Int) ≤ i_10) && decide (i_10 < (boots_2.length : Int))) || (!(!(decide ((boots_2.getD (i_10.toNat) (0:Int)) < (0:Int)))))) then
        bif (bif (decide ((boots_2.getD (i_10.toNat) (0:Int)) < (0:Int))) then true else (decide ((31:Int) < (boots_2.getD (i_10.toNat) (0:Int))))) then
          some (.inr (.inl (((0:Int), ([] : (List TMember)), ()), (2:Int), ())))
        else
          bif (decide ((0:Int) ≤ i_10) && decide (i_10 < (boots_2.length : Int))) then
            bif (decide ((0:Int) < (boots_2.getD (i_10.toNat) (0:Int)))) then
              Option.bind (bodegaref9_Find k v_3 i_10) fun r2 =>
              bif (decide ((0:Int) ≤ i_10) && decide (i_10 < (boots_2.length : Int))) then
                bif ((decide ((0:Int) ≤ i_10) && decide (i_10 < (boots_2.length : Int))) || (!r2.2.1)) then
                  bif (decide (w_9.2.1.length + [(i_10, (boots_2.getD (i_10.toNat) (0:Int)), (bif (bif r2.2.1 then (decide (r2.1.2.1 = (boots_2.getD (i_10.toNat) (0:Int)))) else false) then (bif r2.1.2.2.1 then true else opened_1) else false), ())].length < 1073741824)) then
                    some (.inl (opened_1, boots_2, v_3, t_6, (w_9.1, (w_9.2.1 ++ [(i_10, (boots_2.getD (i_10.toNat) (0:Int)), (bif (bif r2.2.1 then (decide (r2.1.2.1 = (boots_2.getD (i_10.toNat) (0:Int)))) else false) then (bif r2.1.2.2.1 then true else opened_1) else false), ())]), w_9.2.2), (IntKind.i64.wrap (i_10 + (1:Int))), ()))
                  else none
                else none
              else none
            else
              some (.inl (opened_1, boots_2, v_3, t_6, w_9, (IntKind.i64.wrap (i_10 + (1:Int))), ()))
          else none
      else none
    else none
  else
    some (.inr (.inr (boots_2, t_6, w_9, ())))
noncomputable def bodegaref9_Propose_L1_it (k : Nat) (opened_1 : Bool) (boots_2 : (List Int)) (v_3 : TView) (t_6 : TView) (w_9 : TView) (i_10 : Int) : Option ((TView × Int × Unit) ⊕ ((List Int) × TView × TView × Unit)) :=
  iterO (fun s : Bool × (List Int) × TView × TView × TView × Int × Unit => bodegaref9_Propose_L1 k s.1 s.2.1 s.2.2.1 s.2.2.2.1 s.2.2.2.2.1 s.2.2.2.2.2.1) k (opened_1, boots_2, v_3, t_6, w_9, i_10, ())
noncomputable def bodegaref9_Propose (k : Nat) (v_0 : TView) (opened_1 : Bool) (boots_2 : (List Int)) : Option (TView × Int × Unit) :=
  Option.bind (bodegaref9_ValidView k v_0 (boots_2.length : Int)) fun r1 =>
  bif (!(decide (r1.1 = (0:Int)))) then
    some (((0:Int), ([] : (List TMember)), ()), r1.1, ())
  else
    Option.bind (bodegaref9_Propose_L1_it k opened_1 boots_2 v_0 ((0:Int), ([] : (List TMember)), ()) ((IntKind.i64.wrap (v_0.1 + (1:Int))), ([] : (List TMember)), ()) (0:Int)) fun o3 =>
    Sum.elim (fun o4 =>
      some (o4.1, o4.2.1, ())) (fun o5 =>
      bif (decide ((16:Int) ≤ o5.2.2.1.1)) then
        some (((0:Int), ([] : (List TMember)), ()), (12:Int), ())
      else
        Option.bind (bodegaref9_Majority k (o5.1.length : Int)) fun r6 =>
        bif (decide ((o5.2.2.1.2.1.length : Int) < r6.1)) then
          some (((0:Int), ([] : (List TMember)), ()), (9:Int), ())
        else
          Option.bind (bodegaref9_Full k o5.2.2.1) fun r7 =>
          bif (decide ((r7.1.length : Int) = (0:Int))) then
            some (((0:Int), ([] : (List TMember)), ()), (13:Int), ())
          else
            some (o5.2.2.1, (0:Int), ())) o3
def bodegaref9_Propose_sig : Sig := ⟨[⟨false, (.pair (.int .i64) (.pair (.list (.pair (.int .i64) (.pair (.int .i64) (.pair .bool .unit)))) .unit)), .s, .s⟩, ⟨false, .bool, .s, .s⟩, ⟨false, (.list (.int .i64)), .s, .s⟩], [((.pair (.int .i64) (.pair (.list (.pair (.int .i64) (.pair (.int .i64) (.pair .bool .unit)))) .unit)), (.p .s (.p (.o .s) .s))), ((.int .i64), .s)]⟩
noncomputable def bodegaref9_Propose_te (k : Nat) : TE := ⟨bodegaref9_Propose_sig, fun s => bodegaref9_Propose k s.1 s.2.1 s.2.2.1⟩
noncomputable def bodegaref9_Propose_C (k : Nat) : Ctx := cx [(20, bodegaref9_ValidView_te k), (22, bodegaref9_Find_te k), (30, bodegaref9_Full_te k), (39, bodegaref9_Majority_te k)]
noncomputable def bodegaref9_Propose_code : Code := Try.f24.body.getD .skip
theorem bodegaref9_Propose_tab (k : Nat) : ∀ f te, (bodegaref9_Propose_C k).tab f = some te → CallOk Try.prog f te := tab_cons (bodegaref9_ValidView_ok k) (tab_cons (bodegaref9_Find_ok k) (tab_cons (bodegaref9_Full_ok k) (tab_cons (bodegaref9_Majority_ok k) (tab_nil))))
noncomputable def bodegaref9_Propose_ac (k : Nat) : AC := (.sq .rg (.sq (.sq .rg (.sq .rg (.cd (.sq .rg .nx) .nx))) (.sq .rg (.sq (.sq .rg (.bk (.lp [(1, .va .bool .s), (2, .va (.list (.int .i64)) .s), (3, .bo (.pair (.int .i64) (.pair (.list (.pair (.int .i64) (.pair (.int .i64) (.pair .bool .unit)))) .unit)) .s), (6, .bo (.pair (.int .i64) (.pair (.list (.pair (.int .i64) (.pair (.int .i64) (.pair .bool .unit)))) .unit)) (.p .s (.p (.o .s) .s))), (9, .bo (.pair (.int .i64) (.pair (.list (.pair (.int .i64) (.pair (.int .i64) (.pair .bool .unit)))) .unit)) (.p .s (.p (.o .s) .s))), (10, .va (.int .i64) .s)] [(.ret, [(6, .bo (.pair (.int .i64) (.pair (.list (.pair (.int .i64) (.pair (.int .i64) (.pair .bool .unit)))) .unit)) (.p .s (.p (.o .s) .s))), (7, .va (.int .i64) .s)]), (.exit 0, [(2, .va (.list (.int .i64)) .s), (6, .bo (.pair (.int .i64) (.pair (.list (.pair (.int .i64) (.pair (.int .i64) (.pair .bool .unit)))) .unit)) (.p .s (.p (.o .s) .s))), (9, .bo (.pair (.int .i64) (.pair (.list (.pair (.int .i64) (.pair (.int .i64) (.pair .bool .unit)))) .unit)) (.p .s (.p (.o .s) .s)))])] (fun s => bodegaref9_Propose_L1 k s.1 s.2.1 s.2.2.1 s.2.2.2.1 s.2.2.2.2.1 s.2.2.2.2.2.1) (.sq (.sq .rg (.cd .nx .nx)) (.sq (.bk (.sq (.sq .rg (.cd (.sq .rg .nx) .nx)) (.sq .rg (.cd (.sq .rg .rg) .nx)))) .rg))))) (.sq (.bk (.sq .rg (.cd (.sq .rg .nx) (.sq .rg (.cd (.sq .rg .nx) (.sq .rg (.cd (.sq .rg .nx) .nx))))))) (.sq .rg .nx))))))
theorem bodegaref9_Propose_fix (k : Nat) : acFix (bodegaref9_Propose_C k) k 104 (bodegaref9_Propose_ac k) bodegaref9_Propose_code = bodegaref9_Propose_ac k := by kernel_rfl
theorem bodegaref9_Propose_eq (k : Nat) (s : bodegaref9_Propose_sig.S) : fnEv (bodegaref9_Propose_C k) k bodegaref9_Propose_sig Try.f24 bodegaref9_Propose_code (bodegaref9_Propose_ac k) s = (bodegaref9_Propose_te k).F s := by kernel_rfl
theorem bodegaref9_Propose_ok (k : Nat) : CallOk Try.prog 24 (bodegaref9_Propose_te k) :=
  fn_ok (C := bodegaref9_Propose_C k) (code := bodegaref9_Propose_code) (g := bodegaref9_Propose_sig) (k := k) (Fn := (bodegaref9_Propose_te k).F) mixed (tysOk _) (eqsOk _) (bodegaref9_Propose_tab k) Try.func24 (by kernel_rfl) (by kernel_rfl) (of_decide_eq_true (by kernel_rfl)) (by kernel_rfl)
    (fun s q h => ⟨bodegaref9_Propose_ac k, ok_of_fix _ _ (bodegaref9_Propose_fix k), (bodegaref9_Propose_eq k s).trans h⟩)

/-! #### bodega/bodegalaw10.ViewProposes -/
noncomputable def bodegalaw10_ViewProposes_L1 (k : Nat) (opened_1 : Bool) (boots_2 : (List Int)) (raw_4 : (List Int)) (v_11 : TView) (i_12 : Int) : Option ((Bool × (List Int) × (List Int) × TView × Int × Unit) ⊕ ((Bool × (List Int) × (List Int) × TView × Unit))) :=
  bif (decide (i_12 < (boots_2.length : Int))) then
    bif (decide ((0:Int) ≤ i_12) && decide (i_12 < (boots_2.length : Int))) then
      Option.bind (bodegahand_Pick k (boots_2.getD (i_12.toNat) (0:Int)) (4:Int)) fun r2 =>
      bif (decide ((0:Int) ≤ i_12) && decide (i_12 < (boots_2.length : Int))) then
        Option.bind (bodegaref9_Find k v_11 i_12) fun r3 =>
        bif ((decide ((0:Int) ≤ i_12) && decide (i_12 < ((boots_2.set (i_12.toNat) r2.1).length : Int))) || (!r3.2.1)) then
          bif (bif r3.2.1 then (decide ((1:Int) < ((boots_2.set (i_12.toNat) r2.1).getD (i_12.toNat) (0:Int)))) else false) then
            bif (decide ((0:Int) ≤ i_12) && decide (i_12 < ((boots_2.set (i_12.toNat) r2.1).length : Int))) then
              some (.inl (opened_1, ((boots_2.set (i_12.toNat) r2.1).set (i_12.toNat) r3.1.2.1), raw_4, v_11, (IntKind.i64.wrap (i_12 + (1:Int))), ()))
            else none
          else
            some (.inl (opened_1, (boots_2.set (i_12.toNat) r2.1), raw_4, v_11, (IntKind.i64.wrap (i_12 + (1:Int))), ()))
        else none
      else none
    else none
  else
    some (.inr (opened_1, boots_2, raw_4, v_11, ()))
noncomputable def bodegalaw10_ViewProposes_L1_it (k : Nat) (opened_1 : Bool) (boots_2 : (List Int)) (raw_4 : (List Int)) (v_11 : TView) (i_12 : Int) : Option ((Bool × (List Int) × (List Int) × TView × Unit)) :=
  iterO (fun s : Bool × (List Int) × (List Int) × TView × Int × Unit => bodegalaw10_ViewProposes_L1 k s.1 s.2.1 s.2.2.1 s.2.2.2.1 s.2.2.2.2.1) k (opened_1, boots_2, raw_4, v_11, i_12, ())
noncomputable def bodegalaw10_ViewProposes_J1 (k : Nat) (opened_1 : Bool) (boots_2 : (List Int)) (raw_4 : (List Int)) (v_11 : TView) (t_39 : Bool) : Option ((Bool × (List Int) × (List Int) × TView × Unit)) :=
  bif t_39 then
    bif (decide (([] : (List Int)).length + boots_2.length < 1073741824)) then
      Option.bind (bodegalaw10_ViewProposes_L1_it k opened_1 (([] : (List Int)) ++ boots_2) raw_4 v_11 (0:Int)) fun o4 =>
      some (o4.1, o4.2.1, o4.2.2.1, o4.2.2.2.1, ())
    else none
  else
    some (opened_1, boots_2, raw_4, v_11, ())
noncomputable def bodegalaw10_ViewProposes (k : Nat) (r_0 : TRaw) (opened_1 : Bool) (boots_2 : (List Int)) (near_3 : Bool) (raw_4 : (List Int)) : Option (Bool × Unit) :=
  bif (bif (bif (decide ((8:Int) < (r_0.2.2.2.2.2.1.length : Int))) then true else (decide ((8:Int) < (boots_2.length : Int)))) then true else (decide ((8:Int) < (raw_4.length : Int)))) then
    some (true, ())
  else
    Option.bind (bodegalaw10_of k r_0) fun r1 =>
    Option.bind (bodegalaw10_ViewProposes_J1 k opened_1 boots_2 raw_4 r1.1 near_3) fun o5 =>
    Option.bind (view_Propose k o5.2.2.2.1 o5.1 o5.2.1) fun r6 =>
    Option.bind (bodegaref9_Propose k o5.2.2.2.1 o5.1 o5.2.1) fun r7 =>
    Option.bind (view_Propose k o5.2.2.2.1 o5.1 o5.2.2.1) fun r8 =>
    Option.bind (bodegaref9_Propose k o5.2.2.2.1 o5.1 o5.2.2.1) fun r9 =>
    Option.bind (bodegalaw10_awake k ) fun r10 =>
    Option.bind (bif (bif r10.1 then (decide (r6.2.1 = r7.2.1)) else false) then bodegaref9_SameView k r6.1 r7.1 else some (false, ())) fun r11 =>
    Option.bind (bif (bif (bif (bif r10.1 then (decide (r6.2.1 = r7.2.1)) else false) then r11.1 else false) then (decide (r8.2.1 = r9.2.1)) else false) then bodegaref9_SameView k r8.1 r9.1 else some (false, ())) fun r12 =>
    some ((bif (bif (bif (bif r10.1 then (decide (r6.2.1 = r7.2.1)) else false) then r11.1 else false) then (decide (r8.2.1 = r9.2.1)) else false) then r12.1 else false), ())
def bodegalaw10_ViewProposes_sig : Sig := ⟨[⟨false, (.pair (.int .i64) (.pair (.int .i64) (.pair (.int .i64) (.pair (.int .i64) (.pair (.int .i64) (.pair (.list (.int .i64)) .unit)))))), .s, .s⟩, ⟨false, .bool, .s, .s⟩, ⟨false, (.list (.int .i64)), .s, .s⟩, ⟨false, .bool, .s, .s⟩, ⟨false, (.list (.int .i64)), .s, .s⟩], [(.bool, .s)]⟩
noncomputable def bodegalaw10_ViewProposes_te (k : Nat) : TE := ⟨bodegalaw10_ViewProposes_sig, fun s => bodegalaw10_ViewProposes k s.1 s.2.1 s.2.2.1 s.2.2.2.1 s.2.2.2.2.1⟩
noncomputable def bodegalaw10_ViewProposes_C (k : Nat) : Ctx := cx [(9, bodegalaw10_of_te k), (10, bodegahand_Pick_te k), (13, bodegalaw10_awake_te k), (18, bodegaref9_SameView_te k), (22, bodegaref9_Find_te k), (23, view_Propose_te k), (24, bodegaref9_Propose_te k)]
noncomputable def bodegalaw10_ViewProposes_code : Code := Try.f6.body.getD .skip
theorem bodegalaw10_ViewProposes_tab (k : Nat) : ∀ f te, (bodegalaw10_ViewProposes_C k).tab f = some te → CallOk Try.prog f te := tab_cons (bodegalaw10_of_ok k) (tab_cons (bodegahand_Pick_ok k) (tab_cons (bodegalaw10_awake_ok k) (tab_cons (bodegaref9_SameView_ok k) (tab_cons (bodegaref9_Find_ok k) (tab_cons (view_Propose_ok k) (tab_cons (bodegaref9_Propose_ok k) (tab_nil)))))))
noncomputable def bodegalaw10_ViewProposes_ac (k : Nat) : AC := (.sq .rg (.sq (.sq .rg (.cd (.sq .rg .nx) .nx)) (.sq .rg (.sq (.sq .rg (.sm [(1, .va .bool .s), (2, .va (.list (.int .i64)) .s), (4, .va (.list (.int .i64)) .s), (11, .bo (.pair (.int .i64) (.pair (.list (.pair (.int .i64) (.pair (.int .i64) (.pair .bool .unit)))) .unit)) (.p .s (.p (.o .s) .s))), (39, .va .bool .s)] [(.normal, [(1, .va .bool .s), (2, .va (.list (.int .i64)) .s), (4, .va (.list (.int .i64)) .s), (11, .bo (.pair (.int .i64) (.pair (.list (.pair (.int .i64) (.pair (.int .i64) (.pair .bool .unit)))) .unit)) (.p .s (.p (.o .s) .s)))])] (fun s => bodegalaw10_ViewProposes_J1 k s.1 s.2.1 s.2.2.1 s.2.2.2.1 s.2.2.2.2.1) (.cd (.sq .rg (.sq .rg (.bk (.lp [(1, .va .bool .s), (2, .va (.list (.int .i64)) (.o .s)), (4, .va (.list (.int .i64)) .s), (11, .bo (.pair (.int .i64) (.pair (.list (.pair (.int .i64) (.pair (.int .i64) (.pair .bool .unit)))) .unit)) (.p .s (.p (.o .s) .s))), (12, .va (.int .i64) .s)] [(.exit 0, [(1, .va .bool .s), (2, .va (.list (.int .i64)) (.o .s)), (4, .va (.list (.int .i64)) .s), (11, .bo (.pair (.int .i64) (.pair (.list (.pair (.int .i64) (.pair (.int .i64) (.pair .bool .unit)))) .unit)) (.p .s (.p (.o .s) .s)))])] (fun s => bodegalaw10_ViewProposes_L1 k s.1 s.2.1 s.2.2.1 s.2.2.2.1 s.2.2.2.2.1) (.sq (.sq .rg (.cd .nx .nx)) (.sq (.bk (.sq .rg (.sq .rg (.sq .rg (.cd .rg .nx))))) .rg)))))) .nx))) (.sq .rg (.sq .rg (.sq .rg (.sq .rg (.sq .rg .nx)))))))))
theorem bodegalaw10_ViewProposes_fix (k : Nat) : acFix (bodegalaw10_ViewProposes_C k) k 124 (bodegalaw10_ViewProposes_ac k) bodegalaw10_ViewProposes_code = bodegalaw10_ViewProposes_ac k := by kernel_rfl
theorem bodegalaw10_ViewProposes_eq (k : Nat) (s : bodegalaw10_ViewProposes_sig.S) : fnEv (bodegalaw10_ViewProposes_C k) k bodegalaw10_ViewProposes_sig Try.f6 bodegalaw10_ViewProposes_code (bodegalaw10_ViewProposes_ac k) s = (bodegalaw10_ViewProposes_te k).F s := by kernel_rfl
theorem bodegalaw10_ViewProposes_ok (k : Nat) : CallOk Try.prog 6 (bodegalaw10_ViewProposes_te k) :=
  fn_ok (C := bodegalaw10_ViewProposes_C k) (code := bodegalaw10_ViewProposes_code) (g := bodegalaw10_ViewProposes_sig) (k := k) (Fn := (bodegalaw10_ViewProposes_te k).F) mixed (tysOk _) (eqsOk _) (bodegalaw10_ViewProposes_tab k) Try.func6 (by kernel_rfl) (by kernel_rfl) (of_decide_eq_true (by kernel_rfl)) (by kernel_rfl)
    (fun s q h => ⟨bodegalaw10_ViewProposes_ac k, ok_of_fix _ _ (bodegalaw10_ViewProposes_fix k), (bodegalaw10_ViewProposes_eq k s).trans h⟩)

/-! #### bodega/bodegalaw10.ViewKeeps -/
noncomputable def bodegalaw10_ViewKeeps_L1 (k : Nat) (opened_1 : Bool) (boots_2 : (List Int)) (v_7 : TView) (w_8 : TView) (i_10 : Int) : Option ((Bool × (List Int) × TView × TView × Int × Unit) ⊕ ((Bool × Unit) ⊕ (Unit))) :=
  bif (decide (i_10 < (w_8.2.1.length : Int))) then
    bif (decide ((0:Int) ≤ i_10) && decide (i_10 < (w_8.2.1.length : Int))) then
      Option.bind (view_Find k v_7 (w_8.2.1.getD (i_10.toNat) ((0:Int), (0:Int), false, ())).1) fun r6 =>
      bif (decide ((0:Int) ≤ (w_8.2.1.getD (i_10.toNat) ((0:Int), (0:Int), false, ())).1) && decide ((w_8.2.1.getD (i_10.toNat) ((0:Int), (0:Int), false, ())).1 < (boots_2.length : Int))) then
        bif (bif (!(decide ((w_8.2.1.getD (i_10.toNat) ((0:Int), (0:Int), false, ())).2.1 = (boots_2.getD ((w_8.2.1.getD (i_10.toNat) ((0:Int), (0:Int), false, ())).1.toNat) (0:Int))))) then true else (bif (w_8.2.1.getD (i_10.toNat) ((0:Int), (0:Int), false, ())).2.2.1 then (bif (bif (!r6.2.1) then true else (!(decide (r6.1.2.1 = (w_8.2.1.getD (i_10.toNat) ((0:Int), (0:Int), false, ())).2.1)))) then true else (bif (!r6.1.2.2.1) then (!opened_1) else false)) else false)) then
          some (.inr (.inl (false, ())))
        else
          some (.inl (opened_1, boots_2, v_7, w_8, (IntKind.i64.wrap (i_10 + (1:Int))), ()))
      else none
    else none
  else
    some (.inr (.inr ()))
noncomputable def bodegalaw10_ViewKeeps_L1_it (k : Nat) (opened_1 : Bool) (boots_2 : (List Int)) (v_7 : TView) (w_8 : TView) (i_10 : Int) : Option ((Bool × Unit) ⊕ (Unit)) :=
  iterO (fun s : Bool × (List Int) × TView × TView × Int × Unit => bodegalaw10_ViewKeeps_L1 k s.1 s.2.1 s.2.2.1 s.2.2.2.1 s.2.2.2.2.1) k (opened_1, boots_2, v_7, w_8, i_10, ())
noncomputable def bodegalaw10_ViewKeeps (k : Nat) (r_0 : TRaw) (opened_1 : Bool) (boots_2 : (List Int)) : Option (Bool × Unit) :=
  bif (bif (decide ((8:Int) < (r_0.2.2.2.2.2.1.length : Int))) then true else (decide ((8:Int) < (boots_2.length : Int)))) then
    some (true, ())
  else
    Option.bind (bodegalaw10_of k r_0) fun r1 =>
    Option.bind (view_Propose k r1.1 opened_1 boots_2) fun r2 =>
    bif (!(decide (r2.2.1 = (0:Int)))) then
      Option.bind (bodegalaw10_awake k ) fun r3 =>
      some ((bif (bif r3.1 then (decide (r2.1.1 = (0:Int))) else false) then (decide ((r2.1.2.1.length : Int) = (0:Int))) else false), ())
    else
      Option.bind (view_Valid k r2.1 (boots_2.length : Int)) fun r4 =>
      Option.bind (bif (!(bif (bif (!(decide (r4.1 = (0:Int)))) then true else (!(decide (r2.1.1 = (IntKind.i64.wrap (r1.1.1 + (1:Int))))))) then true else (decide ((IntKind.i64.wrap ((2:Int) * (r2.1.2.1.length : Int))) ≤ (boots_2.length : Int))))) then bodegalaw10_awake k  else some (false, ())) fun r5 =>
      bif (bif (bif (bif (!(decide (r4.1 = (0:Int)))) then true else (!(decide (r2.1.1 = (IntKind.i64.wrap (r1.1.1 + (1:Int))))))) then true else (decide ((IntKind.i64.wrap ((2:Int) * (r2.1.2.1.length : Int))) ≤ (boots_2.length : Int)))) then true else (!r5.1)) then
        some (false, ())
      else
        Option.bind (bodegalaw10_ViewKeeps_L1_it k opened_1 boots_2 r1.1 r2.1 (0:Int)) fun o7 =>
        Sum.elim (fun o8 =>
          some (o8.1, ())) (fun _o9 =>
          some (true, ())) o7
def bodegalaw10_ViewKeeps_sig : Sig := ⟨[⟨false, (.pair (.int .i64) (.pair (.int .i64) (.pair (.int .i64) (.pair (.int .i64) (.pair (.int .i64) (.pair (.list (.int .i64)) .unit)))))), .s, .s⟩, ⟨false, .bool, .s, .s⟩, ⟨false, (.list (.int .i64)), .s, .s⟩], [(.bool, .s)]⟩
noncomputable def bodegalaw10_ViewKeeps_te (k : Nat) : TE := ⟨bodegalaw10_ViewKeeps_sig, fun s => bodegalaw10_ViewKeeps k s.1 s.2.1 s.2.2.1⟩
noncomputable def bodegalaw10_ViewKeeps_C (k : Nat) : Ctx := cx [(9, bodegalaw10_of_te k), (13, bodegalaw10_awake_te k), (19, view_Valid_te k), (23, view_Propose_te k), (25, view_Find_te k)]
noncomputable def bodegalaw10_ViewKeeps_code : Code := Try.f7.body.getD .skip
theorem bodegalaw10_ViewKeeps_tab (k : Nat) : ∀ f te, (bodegalaw10_ViewKeeps_C k).tab f = some te → CallOk Try.prog f te := tab_cons (bodegalaw10_of_ok k) (tab_cons (bodegalaw10_awake_ok k) (tab_cons (view_Valid_ok k) (tab_cons (view_Propose_ok k) (tab_cons (view_Find_ok k) (tab_nil)))))
noncomputable def bodegalaw10_ViewKeeps_ac (k : Nat) : AC := (.sq .rg (.sq (.sq .rg (.cd (.sq .rg .nx) .nx)) (.sq .rg (.sq .rg (.sq (.sq .rg (.cd (.sq .rg .nx) .nx)) (.sq (.sq .rg (.cd (.sq .rg .nx) .nx)) (.sq (.sq .rg (.bk (.lp [(1, .va .bool .s), (2, .va (.list (.int .i64)) .s), (7, .bo (.pair (.int .i64) (.pair (.list (.pair (.int .i64) (.pair (.int .i64) (.pair .bool .unit)))) .unit)) (.p .s (.p (.o .s) .s))), (8, .bo (.pair (.int .i64) (.pair (.list (.pair (.int .i64) (.pair (.int .i64) (.pair .bool .unit)))) .unit)) (.p .s (.p (.o .s) .s))), (10, .va (.int .i64) .s)] [(.ret, [(6, .va .bool .s)]), (.exit 0, [])] (fun s => bodegalaw10_ViewKeeps_L1 k s.1 s.2.1 s.2.2.1 s.2.2.2.1 s.2.2.2.2.1) (.sq (.sq .rg (.cd .nx .nx)) (.sq (.bk (.sq .rg (.sq .rg (.sq .rg (.cd (.sq .rg .nx) .nx))))) .rg))))) (.sq .rg .nx))))))))
theorem bodegalaw10_ViewKeeps_fix (k : Nat) : acFix (bodegalaw10_ViewKeeps_C k) k 123 (bodegalaw10_ViewKeeps_ac k) bodegalaw10_ViewKeeps_code = bodegalaw10_ViewKeeps_ac k := by kernel_rfl
theorem bodegalaw10_ViewKeeps_eq (k : Nat) (s : bodegalaw10_ViewKeeps_sig.S) : fnEv (bodegalaw10_ViewKeeps_C k) k bodegalaw10_ViewKeeps_sig Try.f7 bodegalaw10_ViewKeeps_code (bodegalaw10_ViewKeeps_ac k) s = (bodegalaw10_ViewKeeps_te k).F s := by kernel_rfl
theorem bodegalaw10_ViewKeeps_ok (k : Nat) : CallOk Try.prog 7 (bodegalaw10_ViewKeeps_te k) :=
  fn_ok (C := bodegalaw10_ViewKeeps_C k) (code := bodegalaw10_ViewKeeps_code) (g := bodegalaw10_ViewKeeps_sig) (k := k) (Fn := (bodegalaw10_ViewKeeps_te k).F) mixed (tysOk _) (eqsOk _) (bodegalaw10_ViewKeeps_tab k) Try.func7 (by kernel_rfl) (by kernel_rfl) (of_decide_eq_true (by kernel_rfl)) (by kernel_rfl)
    (fun s q h => ⟨bodegalaw10_ViewKeeps_ac k, ok_of_fix _ _ (bodegalaw10_ViewKeeps_fix k), (bodegalaw10_ViewKeeps_eq k s).trans h⟩)

/-! #### slices.Clone(()bodega/api.Member,bodega/api.Member) -/
noncomputable def slices_Clone (_k : Nat) (t_0 : (List TMember)) : Option ((List TMember) × Unit) :=
  agree (
    bif (decide (([] : (List TMember)).length + t_0.length < 1073741824)) then
      some ((([] : (List TMember)) ++ t_0), ())
    else none)
    (bif (t_0.isEmpty) then
      some (([] : (List TMember)), ())
    else
      bif (decide (([] : (List TMember)).length + t_0.length < 1073741824)) then
        some ((([] : (List TMember)) ++ t_0), ())
      else none)
def slices_Clone_sig : Sig := ⟨[⟨false, (.list (.pair (.int .i64) (.pair (.int .i64) (.pair .bool .unit)))), .s, .s⟩], [((.list (.pair (.int .i64) (.pair (.int .i64) (.pair .bool .unit)))), (.o .s))]⟩
noncomputable def slices_Clone_te (k : Nat) : TE := ⟨slices_Clone_sig, fun s => slices_Clone k s.1⟩
noncomputable def slices_Clone_C (_k : Nat) : Ctx := cx []
noncomputable def slices_Clone_code : Code := Try.f40.body.getD .skip
theorem slices_Clone_tab (k : Nat) : ∀ f te, (slices_Clone_C k).tab f = some te → CallOk Try.prog f te := tab_nil
noncomputable def slices_Clone_ac (_k : Nat) : AC := (.sq .rg (.sq (.sq .rg (.cd (.sq .rg .nx) .nx)) (.sq .rg .nx)))
theorem slices_Clone_fix (k : Nat) : acFix (slices_Clone_C k) k 8 (slices_Clone_ac k) slices_Clone_code = slices_Clone_ac k := by kernel_rfl
theorem slices_Clone_eq (k : Nat) (s : slices_Clone_sig.S) : fnEv (slices_Clone_C k) k slices_Clone_sig Try.f40 slices_Clone_code (slices_Clone_ac k) s = (slices_Clone_te k).F s := by kernel_rfl
theorem slices_Clone_ok (k : Nat) : CallOk Try.prog 40 (slices_Clone_te k) :=
  fn_ok (C := slices_Clone_C k) (code := slices_Clone_code) (g := slices_Clone_sig) (k := k) (Fn := (slices_Clone_te k).F) mixed (tysOk _) (eqsOk _) (slices_Clone_tab k) Try.func40 (by kernel_rfl) (by kernel_rfl) (of_decide_eq_true (by kernel_rfl)) (by kernel_rfl)
    (fun s q h => ⟨slices_Clone_ac k, ok_of_fix _ _ (slices_Clone_fix k), (slices_Clone_eq k s).trans h⟩)

/-! #### bodega/view.Backups -/
noncomputable def view_Backups (k : Nat) (v_0 : TView) : Option ((List TMember) × Unit) :=
  bif (decide ((v_0.2.1.length : Int) = (0:Int))) then
    some (([] : (List TMember)), ())
  else
    bif (decide ((0:Int) ≤ (1:Int)) && decide ((1:Int) ≤ (v_0.2.1.length : Int)) && decide ((v_0.2.1.length : Int) ≤ (v_0.2.1.length : Int))) then
      Option.bind (slices_Clone k ((List.take ((v_0.2.1.length : Int).toNat) v_0.2.1).drop 1)) fun r1 =>
      some (r1.1, ())
    else none
def view_Backups_sig : Sig := ⟨[⟨false, (.pair (.int .i64) (.pair (.list (.pair (.int .i64) (.pair (.int .i64) (.pair .bool .unit)))) .unit)), .s, .s⟩], [((.list (.pair (.int .i64) (.pair (.int .i64) (.pair .bool .unit)))), (.o .s))]⟩
noncomputable def view_Backups_te (k : Nat) : TE := ⟨view_Backups_sig, fun s => view_Backups k s.1⟩
noncomputable def view_Backups_C (k : Nat) : Ctx := cx [(40, slices_Clone_te k)]
noncomputable def view_Backups_code : Code := Try.f27.body.getD .skip
theorem view_Backups_tab (k : Nat) : ∀ f te, (view_Backups_C k).tab f = some te → CallOk Try.prog f te := tab_cons (slices_Clone_ok k) (tab_nil)
noncomputable def view_Backups_ac (_k : Nat) : AC := (.sq .rg (.sq (.sq .rg (.cd (.sq .rg .nx) .nx)) (.sq .rg .nx)))
theorem view_Backups_fix (k : Nat) : acFix (view_Backups_C k) k 11 (view_Backups_ac k) view_Backups_code = view_Backups_ac k := by kernel_rfl
theorem view_Backups_eq (k : Nat) (s : view_Backups_sig.S) : fnEv (view_Backups_C k) k view_Backups_sig Try.f27 view_Backups_code (view_Backups_ac k) s = (view_Backups_te k).F s := by kernel_rfl
theorem view_Backups_ok (k : Nat) : CallOk Try.prog 27 (view_Backups_te k) :=
  fn_ok (C := view_Backups_C k) (code := view_Backups_code) (g := view_Backups_sig) (k := k) (Fn := (view_Backups_te k).F) mixed (tysOk _) (eqsOk _) (view_Backups_tab k) Try.func27 (by kernel_rfl) (by kernel_rfl) (of_decide_eq_true (by kernel_rfl)) (by kernel_rfl)
    (fun s q h => ⟨view_Backups_ac k, ok_of_fix _ _ (view_Backups_fix k), (view_Backups_eq k s).trans h⟩)

/-! #### bodega/bodegalaw10.same -/
noncomputable def bodegalaw10_same (k : Nat) (a_0 : (List TMember)) (b_1 : (List TMember)) : Option (Bool × Unit) :=
  Option.bind (bodegaref9_SameView k ((0:Int), a_0, ()) ((0:Int), b_1, ())) fun r1 =>
  some (r1.1, ())
def bodegalaw10_same_sig : Sig := ⟨[⟨false, (.list (.pair (.int .i64) (.pair (.int .i64) (.pair .bool .unit)))), .s, .s⟩, ⟨false, (.list (.pair (.int .i64) (.pair (.int .i64) (.pair .bool .unit)))), .s, .s⟩], [(.bool, .s)]⟩
noncomputable def bodegalaw10_same_te (k : Nat) : TE := ⟨bodegalaw10_same_sig, fun s => bodegalaw10_same k s.1 s.2.1⟩
noncomputable def bodegalaw10_same_C (k : Nat) : Ctx := cx [(18, bodegaref9_SameView_te k)]
noncomputable def bodegalaw10_same_code : Code := Try.f28.body.getD .skip
theorem bodegalaw10_same_tab (k : Nat) : ∀ f te, (bodegalaw10_same_C k).tab f = some te → CallOk Try.prog f te := tab_cons (bodegaref9_SameView_ok k) (tab_nil)
noncomputable def bodegalaw10_same_ac (_k : Nat) : AC := (.sq .rg (.sq .rg .nx))
theorem bodegalaw10_same_fix (k : Nat) : acFix (bodegalaw10_same_C k) k 10 (bodegalaw10_same_ac k) bodegalaw10_same_code = bodegalaw10_same_ac k := by kernel_rfl
theorem bodegalaw10_same_eq (k : Nat) (s : bodegalaw10_same_sig.S) : fnEv (bodegalaw10_same_C k) k bodegalaw10_same_sig Try.f28 bodegalaw10_same_code (bodegalaw10_same_ac k) s = (bodegalaw10_same_te k).F s := by kernel_rfl
theorem bodegalaw10_same_ok (k : Nat) : CallOk Try.prog 28 (bodegalaw10_same_te k) :=
  fn_ok (C := bodegalaw10_same_C k) (code := bodegalaw10_same_code) (g := bodegalaw10_same_sig) (k := k) (Fn := (bodegalaw10_same_te k).F) mixed (tysOk _) (eqsOk _) (bodegalaw10_same_tab k) Try.func28 (by kernel_rfl) (by kernel_rfl) (of_decide_eq_true (by kernel_rfl)) (by kernel_rfl)
    (fun s q h => ⟨bodegalaw10_same_ac k, ok_of_fix _ _ (bodegalaw10_same_fix k), (bodegalaw10_same_eq k s).trans h⟩)

/-! #### bodega/view.Full -/
noncomputable def view_Full_L1 (_k : Nat) (out_3 : (List TMember)) (t_7 : (List TMember)) (t_8 : Int) (t_9 : Int) : Option (((List TMember) × (List TMember) × Int × Int × Unit) ⊕ (((List TMember) × Unit))) :=
  bif (decide (t_9 < t_8)) then
    bif (decide ((0:Int) ≤ t_9) && decide (t_9 < (t_7.length : Int))) then
      bif (t_7.getD (t_9.toNat) ((0:Int), (0:Int), false, ())).2.2.1 then
        bif (decide (out_3.length + [(t_7.getD (t_9.toNat) ((0:Int), (0:Int), false, ()))].length < 1073741824)) then
          some (.inl ((out_3 ++ [(t_7.getD (t_9.toNat) ((0:Int), (0:Int), false, ()))]), t_7, t_8, (IntKind.i64.wrap (t_9 + (1:Int))), ()))
        else none
      else
        some (.inl (out_3, t_7, t_8, (IntKind.i64.wrap (t_9 + (1:Int))), ()))
    else none
  else
    some (.inr (out_3, ()))
noncomputable def view_Full_L1_it (k : Nat) (out_3 : (List TMember)) (t_7 : (List TMember)) (t_8 : Int) (t_9 : Int) : Option (((List TMember) × Unit)) :=
  iterO (fun s : (List TMember) × (List TMember) × Int × Int × Unit => view_Full_L1 k s.1 s.2.1 s.2.2.1 s.2.2.2.1) k (out_3, t_7, t_8, t_9, ())
noncomputable def view_Full (k : Nat) (v_0 : TView) : Option ((List TMember) × Unit) :=
  Option.bind (view_Full_L1_it k ([] : (List TMember)) v_0.2.1 (v_0.2.1.length : Int) (0:Int)) fun o1 =>
  some (o1.1, ())
def view_Full_sig : Sig := ⟨[⟨false, (.pair (.int .i64) (.pair (.list (.pair (.int .i64) (.pair (.int .i64) (.pair .bool .unit)))) .unit)), .s, .s⟩], [((.list (.pair (.int .i64) (.pair (.int .i64) (.pair .bool .unit)))), (.o .s))]⟩
noncomputable def view_Full_te (k : Nat) : TE := ⟨view_Full_sig, fun s => view_Full k s.1⟩
noncomputable def view_Full_C (_k : Nat) : Ctx := cx []
noncomputable def view_Full_code : Code := Try.f29.body.getD .skip
theorem view_Full_tab (k : Nat) : ∀ f te, (view_Full_C k).tab f = some te → CallOk Try.prog f te := tab_nil
noncomputable def view_Full_ac (k : Nat) : AC := (.sq .rg (.sq .rg (.sq (.sq .rg (.bk (.lp [(3, .va (.list (.pair (.int .i64) (.pair (.int .i64) (.pair .bool .unit)))) (.o .s)), (7, .va (.list (.pair (.int .i64) (.pair (.int .i64) (.pair .bool .unit)))) .s), (8, .va (.int .i64) .s), (9, .va (.int .i64) .s)] [(.exit 0, [(3, .va (.list (.pair (.int .i64) (.pair (.int .i64) (.pair .bool .unit)))) (.o .s))])] (fun s => view_Full_L1 k s.1 s.2.1 s.2.2.1 s.2.2.2.1) (.sq .rg (.sq (.cd .nx .nx) (.sq (.bk (.sq .rg (.sq .rg (.cd .rg .nx)))) .rg)))))) (.sq .rg .nx))))
theorem view_Full_fix (k : Nat) : acFix (view_Full_C k) k 21 (view_Full_ac k) view_Full_code = view_Full_ac k := by kernel_rfl
theorem view_Full_eq (k : Nat) (s : view_Full_sig.S) : fnEv (view_Full_C k) k view_Full_sig Try.f29 view_Full_code (view_Full_ac k) s = (view_Full_te k).F s := by kernel_rfl
theorem view_Full_ok (k : Nat) : CallOk Try.prog 29 (view_Full_te k) :=
  fn_ok (C := view_Full_C k) (code := view_Full_code) (g := view_Full_sig) (k := k) (Fn := (view_Full_te k).F) mixed (tysOk _) (eqsOk _) (view_Full_tab k) Try.func29 (by kernel_rfl) (by kernel_rfl) (of_decide_eq_true (by kernel_rfl)) (by kernel_rfl)
    (fun s q h => ⟨view_Full_ac k, ok_of_fix _ _ (view_Full_fix k), (view_Full_eq k s).trans h⟩)

/-! #### bodega/word.within(int) -/
noncomputable def word_within (_k : Nat) (x_0 : Int) (least_1 : Int) (most_2 : Int) : Option (Bool × Unit) :=
  some ((bif (decide (least_1 ≤ x_0)) then (decide (x_0 ≤ most_2)) else false), ())
def word_within_sig : Sig := ⟨[⟨false, (.int .i64), .s, .s⟩, ⟨false, (.int .i64), .s, .s⟩, ⟨false, (.int .i64), .s, .s⟩], [(.bool, .s)]⟩
noncomputable def word_within_te (k : Nat) : TE := ⟨word_within_sig, fun s => word_within k s.1 s.2.1 s.2.2.1⟩
noncomputable def word_within_C (_k : Nat) : Ctx := cx []
noncomputable def word_within_code : Code := Try.f46.body.getD .skip
theorem word_within_tab (k : Nat) : ∀ f te, (word_within_C k).tab f = some te → CallOk Try.prog f te := tab_nil
noncomputable def word_within_ac (_k : Nat) : AC := (.sq .rg (.sq .rg .nx))
theorem word_within_fix (k : Nat) : acFix (word_within_C k) k 15 (word_within_ac k) word_within_code = word_within_ac k := by kernel_rfl
theorem word_within_eq (k : Nat) (s : word_within_sig.S) : fnEv (word_within_C k) k word_within_sig Try.f46 word_within_code (word_within_ac k) s = (word_within_te k).F s := by kernel_rfl
theorem word_within_ok (k : Nat) : CallOk Try.prog 46 (word_within_te k) :=
  fn_ok (C := word_within_C k) (code := word_within_code) (g := word_within_sig) (k := k) (Fn := (word_within_te k).F) mixed (tysOk _) (eqsOk _) (word_within_tab k) Try.func46 (by kernel_rfl) (by kernel_rfl) (of_decide_eq_true (by kernel_rfl)) (by kernel_rfl)
    (fun s q h => ⟨word_within_ac k, ok_of_fix _ _ (word_within_fix k), (word_within_eq k s).trans h⟩)

end Go.Proofs.Ytjbnedjlcpdekaa.N
