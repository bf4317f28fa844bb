import Derived.Test.YtkgjdglkkoabmaaGreatV3
import Derived.Test.YtkgjdglkkoabmaaGreatProg

namespace Go.Proofs.YtkgjdglkkoabmaaGreat.N
open Go.VL Go.Proofs

abbrev TerrorAddressString := ((List Int) × (Int × Unit))
abbrev TResolveOutcome := (Int × (Bool × Unit))
abbrev THolding := (Int × (Int × Unit))
abbrev TNode := ((List Int) × (Bool × Unit))
abbrev TClocksOutcome := (Int × ((List Int) × Unit))
abbrev TMember := (Int × TResolveOutcome)
abbrev TChoice := (Int × THolding)
abbrev TPage := (Int × (Int × ((List Int) × Unit)))
abbrev TboundsError := (Int × (Int × (Bool × (Int × Unit))))
abbrev TAlter := (Int × (Int × (Int × (Int × Unit))))
abbrev TPeekOutcome := (Int × ((List THolding) × Unit))
abbrev TView := (Int × ((List TMember) × Unit))
abbrev TRecord := (Int × ((List TPage) × Unit))
abbrev TRaw := (Int × (Int × (Int × TChoice)))
abbrev TPoke := (Int × (Int × TAlter))
abbrev TResolveJob := (Int × (Int × (TView × Unit)))
abbrev TRenewJob := (Int × TResolveJob)
abbrev TVerb := (Int × (Int × (Int × (Int × (Int × (Int × ((List Int) × (Int × (Int × Unit)))))))))
abbrev Tclient := (Bool × (Int × (Bool × ((List TClocksOutcome) × ((List Bool) × THolding)))))
abbrev TType := (Int × (Int × (Int × (Int × (Int × (Int × (Int × ((Option Nat) × ((Option Int) × (Int × (Int × Unit)))))))))))
abbrev Tpending := (TVerb × (Int × ((List Int) × (Int × Unit))))
abbrev TTalk := ((List (List TClocksOutcome)) × ((List TVerb) × (Bool × Unit)))
abbrev Ttalk := ((List (List TClocksOutcome)) × (Int × ((List TVerb) × (Bool × Unit))))
abbrev TPair := (Int × (Int × (Int × ((List Tpending) × Unit))))
abbrev TTypeAssertionError := ((Option TType) × ((Option TType) × ((Option TType) × ((List Int) × Unit))))
abbrev TFabric := (Int × ((List TNode) × ((List Tclient) × ((List (List TPair)) × ((List TPair) × Unit)))))
abbrev y2 : Ty := (.pair (.int .i64) (.pair (.int .i64) (.pair (.int .i64) (.pair (.int .i64) (.pair (.int .u64) (.pair (.int .u64) (.pair (.list (.int .u64)) (.pair (.int .u64) (.pair (.int .i64) .unit)))))))))
abbrev y4 : Ty := (.pair (.int .i64) (.pair (.list (.int .u64)) .unit))
abbrev y5 : Ty := (.pair (.int .i64) (.pair (.int .i64) (.pair (.int .i64) (.pair (.int .u64) .unit))))
abbrev y6 : Ty := (.pair (.int .i64) (.pair (.int .u64) (.pair (.arr 7 (.int .u64)) .unit)))
abbrev y7 : Ty := (.pair (.int .i64) (.pair (.int .i64) .unit))
abbrev y9 : Ty := (.pair (.int .i64) (.pair (.int .i64) (.pair .bool .unit)))
abbrev y3 : Ty := (.pair (.int .i64) (.pair (.list y9) .unit))
abbrev y10 : Ty := (.pair (.list (.int .u64)) (.pair .bool .unit))
abbrev y11 : Ty := (.pair (.int .i64) (.pair (.int .i64) y5))
abbrev y12 : Ty := (.pair (.int .i64) (.pair (.int .i64) (.pair (.int .i64) (.pair (.int .i64) y7))))
abbrev y13 : Ty := (.pair (.int .i64) (.pair (.int .i64) (.pair y3 .unit)))
abbrev y14 : Ty := (.pair (.int .i64) (.pair (.list y6) .unit))
abbrev y15 : Ty := (.pair (.list (.list y4)) (.pair (.list y2) (.pair .bool .unit)))
abbrev y16 : Ty := (.pair (.int .i64) (.pair (.list y7) .unit))
abbrev y17 : Ty := (.pair .bool (.pair (.int .i64) (.pair .bool (.pair (.list y4) (.pair (.list .bool) y7)))))
abbrev y18 : Ty := (.pair (.list (.list y4)) (.pair (.int .i64) (.pair (.list y2) (.pair .bool .unit))))
abbrev y19 : Ty := (.pair y2 (.pair (.int .i64) (.pair (.list (.int .u64)) (.pair (.int .i64) .unit))))
abbrev y8 : Ty := (.pair (.int .i64) (.pair (.int .i64) (.pair (.int .i64) (.pair (.list y19) .unit))))
abbrev y1 : Ty := (.pair (.int .i64) (.pair (.list y10) (.pair (.list y17) (.pair (.list (.list y8)) (.pair (.list y8) .unit)))))
abbrev q1 : Md := (.p .s (.p (.o (.p (.o .s) .s)) (.p (.o (.p .s (.p .s (.p .s (.p (.o .s) (.p (.o .s) .s)))))) (.p (.o (.o .s)) (.p (.o .s) .s)))))
abbrev q2 : Md := (.p .s (.p (.o .s) .s))
abbrev q3 : Md := (.p .s (.p (.o (.p (.o .s) .s)) (.p (.o (.p .s (.p .s (.p .s q2)))) (.p (.o (.o .s)) (.p (.o .s) .s)))))
def tys : List (Nat × Ty) := [(3, (.int .i64)), (4, .bool), (5, (.int .u8)), (23, y12), (24, (.list y11)), (25, (.list y5)), (27, (.list y9)), (29, y3), (31, (.pair (.int .i64) y13)), (33, (.list y2)), (34, (.int .i64)), (36, (.pair (.int .i64) .unit)), (43, (.list (.list y4))), (48, (.pair y3 .unit)), (49, (.list (.int .u64))), (51, y4), (58, y13), (61, (.pair (.int .i64) (.pair .bool .unit))), (66, (.pair y3 .unit)), (67, (.list y7)), (69, y16), (72, (.list y7)), (77, y7), (79, y7), (83, (.int .u64)), (88, y9), (89, .fn), (91, y2), (93, (.list y4)), (103, (.ptr y1)), (108, .fn), (110, y4), (112, .fn), (116, .fn), (118, (.int .u64)), (120, .fn), (123, (.ptr y15)), (130, (.ptr y18)), (132, y18), (138, y5), (142, (.pair (.int .i64) y7)), (143, (.list (.pair (.int .i64) y7))), (149, y11), (150, (.list (.int .i64))), (156, y15), (158, (.list .bool)), (160, y17), (161, (.list y10)), (162, (.list y17)), (163, (.list (.list y8))), (164, (.list y8)), (166, y1), (168, (.list y19)), (170, y8), (171, (.ptr y17)), (172, (.ptr y8)), (175, (.ptr y10)), (177, y10), (181, (.arr 7 (.int .u64))), (183, y6), (190, y19), (193, (.list y7)), (197, y7), (199, (.list y6)), (202, y14), (215, (.list (.int .u8)))]
def eqT : List Nat := [3, 4, 34, 83]
def cx (l : List (Nat × TE)) (ll : List (Nat × TEL)) (ss : List Nat := []) : Ctx := { ty := lookT tys, eqs := memN eqT, tab := lookT l, em := lookE [(y10, (.p (.o .s) .s)), (y17, (.p .s (.p .s (.p .s (.p (.o .s) (.p (.o .s) .s)))))), ((.list y8), (.o .s))], tabL := lookLs ll, shs := memN ss }
theorem tysOk (l : List (Nat × TE)) (ll : List (Nat × TEL)) (ss : List Nat := []) : TysOk Tryz.prog (cx l ll ss) := tysOk_of (l := tys) rfl (by kernel_rfl)
theorem eqsOk (l : List (Nat × TE)) (ll : List (Nat × TEL)) (ss : List Nat := []) : EqsOk Tryz.prog (cx l ll ss) := eqsOk_of (l := tys) rfl (by kernel_rfl)
theorem mixed : Tryz.prog.follows .mixedOrders = true := by kernel_rfl
end Go.Proofs.YtkgjdglkkoabmaaGreat.N

set_option maxRecDepth 1000000
namespace Go.Proofs.YtkgjdglkkoabmaaGreat.N
open Go.VL Go.Proofs

/-! #### bodega/bodegahand.Pick -/
noncomputable def bodegahand_Pick (_k : Nat) (n_0 : Int) (t_1 : Int) : Option (Int × Unit) :=
  bif (decide (t_1 < (1:Int))) then
    some ((0:Int), ())
  else
    bif (!decide (t_1 = 0)) then
      bif (!decide (t_1 = 0)) then
        some ((Int.tmod (IntKind.i64.wrap ((Int.tmod n_0 t_1) + t_1)) t_1), ())
      else none
    else none
def bodegahand_Pick_sig : Sig := ⟨[⟨false, (.int .i64), .s, .s⟩, ⟨false, (.int .i64), .s, .s⟩], [((.int .i64), .s)]⟩
noncomputable def bodegahand_Pick_te (k : Nat) : TE := ⟨bodegahand_Pick_sig, fun s => bodegahand_Pick k s.1 s.2.1⟩
noncomputable def bodegahand_Pick_C (_k : Nat) : Ctx := cx [] [] []
noncomputable def bodegahand_Pick_code : Code := Tryz.f7.body.getD .skip
theorem bodegahand_Pick_tab (k : Nat) : TabOk Tryz.prog (bodegahand_Pick_C k) := ⟨tab_nil, lay_nil⟩
noncomputable def bodegahand_Pick_ac (_k : Nat) : AC := (.sq .rg (.sq (.sq .rg (.cd (.sq .rg .nx) .nx)) (.sq .rg .nx)))
theorem bodegahand_Pick_fix (k : Nat) : acFix (bodegahand_Pick_C k) k 14 (bodegahand_Pick_ac k) bodegahand_Pick_code = bodegahand_Pick_ac k := by kernel_rfl
theorem bodegahand_Pick_eq (k : Nat) (s : bodegahand_Pick_sig.S) : fnEv (bodegahand_Pick_C k) k bodegahand_Pick_sig Tryz.f7 bodegahand_Pick_code (bodegahand_Pick_ac k) s = (bodegahand_Pick_te k).F s := by kernel_rfl
theorem bodegahand_Pick_ok (k : Nat) : CallOk Tryz.prog 7 (bodegahand_Pick_te k) :=
  fn_ok (C := bodegahand_Pick_C k) (code := bodegahand_Pick_code) (g := bodegahand_Pick_sig) (k := k) (Fn := (bodegahand_Pick_te k).F) mixed (tysOk _ _ _) (eqsOk _ _ _) (bodegahand_Pick_tab k) Tryz.func7 (by kernel_rfl) (by kernel_rfl) (of_decide_eq_true (by kernel_rfl)) (by kernel_rfl) (by kernel_rfl) (by kernel_rfl)
    (fun s q h => ⟨bodegahand_Pick_ac k, ok_of_fix _ _ (bodegahand_Pick_fix k), (bodegahand_Pick_eq k s).trans h⟩)

/-! #### bodega/bodegaref9.Initial -/
noncomputable def bodegaref9_Initial_L1 (_k : Nat) (nodes_0 : Int) (t_2 : TView) (v_4 : TView) (i_5 : Int) : Option ((Int × TView × TView × Int × Unit) ⊕ ((TView × TView × Unit))) :=
  bif (decide (i_5 < nodes_0)) then
    bif (decide (v_4.2.1.length + [(i_5, (1:Int), true, ())].length < 1073741824)) then
      some (.inl (nodes_0, t_2, (v_4.1, (v_4.2.1 ++ [(i_5, (1:Int), true, ())]), v_4.2.2), (IntKind.i64.wrap (i_5 + (1:Int))), ()))
    else none
  else
    some (.inr (t_2, v_4, ()))
noncomputable def bodegaref9_Initial_L1_it (k : Nat) (nodes_0 : Int) (t_2 : TView) (v_4 : TView) (i_5 : Int) : Option ((TView × TView × Unit)) :=
  iterO (fun s : Int × TView × TView × Int × Unit => bodegaref9_Initial_L1 k s.1 s.2.1 s.2.2.1 s.2.2.2.1) k (nodes_0, t_2, v_4, i_5, ())
noncomputable def bodegaref9_Initial (k : Nat) (nodes_0 : Int) : Option (TView × Int × Unit) :=
  bif (bif (decide (nodes_0 < (1:Int))) then true else (decide ((5:Int) < nodes_0))) then
    some (((0:Int), ([] : (List TMember)), ()), (1:Int), ())
  else
    Option.bind (bodegaref9_Initial_L1_it k nodes_0 ((0:Int), ([] : (List TMember)), ()) ((0:Int), ([] : (List TMember)), ()) (0:Int)) fun o1 =>
    some (o1.2.1, (0:Int), ())
def bodegaref9_Initial_sig : Sig := ⟨[⟨false, (.int .i64), .s, .s⟩], [(y3, q2), ((.int .i64), .s)]⟩
noncomputable def bodegaref9_Initial_te (k : Nat) : TE := ⟨bodegaref9_Initial_sig, fun s => bodegaref9_Initial k s.1⟩
noncomputable def bodegaref9_Initial_C (_k : Nat) : Ctx := cx [] [] []
noncomputable def bodegaref9_Initial_code : Code := Tryz.f74.body.getD .skip
theorem bodegaref9_Initial_tab (k : Nat) : TabOk Tryz.prog (bodegaref9_Initial_C k) := ⟨tab_nil, lay_nil⟩
noncomputable def bodegaref9_Initial_ac (k : Nat) : AC := (.sq .rg (.sq (.sq .rg (.cd (.sq .rg .nx) .nx)) (.sq .rg (.sq (.sq .rg (.bk (.lp [(0, .va (.int .i64) .s), (2, .bo y3 q2), (4, .bo y3 q2), (5, .va (.int .i64) .s)] [(.exit 0, [(2, .bo y3 q2), (4, .bo y3 q2)])] (fun s => bodegaref9_Initial_L1 k s.1 s.2.1 s.2.2.1 s.2.2.2.1) (.sq (.sq .rg (.cd .nx .nx)) (.sq (.bk .rg) .rg))))) (.sq .rg .nx)))))
theorem bodegaref9_Initial_fix (k : Nat) : acFix (bodegaref9_Initial_C k) k 27 (bodegaref9_Initial_ac k) bodegaref9_Initial_code = bodegaref9_Initial_ac k := by kernel_rfl
theorem bodegaref9_Initial_eq (k : Nat) (s : bodegaref9_Initial_sig.S) : fnEv (bodegaref9_Initial_C k) k bodegaref9_Initial_sig Tryz.f74 bodegaref9_Initial_code (bodegaref9_Initial_ac k) s = (bodegaref9_Initial_te k).F s := by kernel_rfl
theorem bodegaref9_Initial_ok (k : Nat) : CallOk Tryz.prog 74 (bodegaref9_Initial_te k) :=
  fn_ok (C := bodegaref9_Initial_C k) (code := bodegaref9_Initial_code) (g := bodegaref9_Initial_sig) (k := k) (Fn := (bodegaref9_Initial_te k).F) mixed (tysOk _ _ _) (eqsOk _ _ _) (bodegaref9_Initial_tab k) Tryz.func74 (by kernel_rfl) (by kernel_rfl) (of_decide_eq_true (by kernel_rfl)) (by kernel_rfl) (by kernel_rfl) (by kernel_rfl)
    (fun s q h => ⟨bodegaref9_Initial_ac k, ok_of_fix _ _ (bodegaref9_Initial_fix k), (bodegaref9_Initial_eq k s).trans h⟩)

/-! #### bodega/bodegahand.Start -/
noncomputable def bodegahand_Start (k : Nat) (nodes_0 : Int) : Option (TView × Unit) :=
  Option.bind (bodegaref9_Initial k nodes_0) fun r1 =>
  some (r1.1, ())
def bodegahand_Start_sig : Sig := ⟨[⟨false, (.int .i64), .s, .s⟩], [(y3, q2)]⟩
noncomputable def bodegahand_Start_te (k : Nat) : TE := ⟨bodegahand_Start_sig, fun s => bodegahand_Start k s.1⟩
noncomputable def bodegahand_Start_C (k : Nat) : Ctx := cx [(74, bodegaref9_Initial_te k)] [] []
noncomputable def bodegahand_Start_code : Code := Tryz.f40.body.getD .skip
theorem bodegahand_Start_tab (k : Nat) : TabOk Tryz.prog (bodegahand_Start_C k) := ⟨tab_cons (bodegaref9_Initial_ok k) (tab_nil), lay_nil⟩
noncomputable def bodegahand_Start_ac (_k : Nat) : AC := (.sq .rg (.sq .rg (.sq .rg .nx)))
theorem bodegahand_Start_fix (k : Nat) : acFix (bodegahand_Start_C k) k 11 (bodegahand_Start_ac k) bodegahand_Start_code = bodegahand_Start_ac k := by kernel_rfl
theorem bodegahand_Start_eq (k : Nat) (s : bodegahand_Start_sig.S) : fnEv (bodegahand_Start_C k) k bodegahand_Start_sig Tryz.f40 bodegahand_Start_code (bodegahand_Start_ac k) s = (bodegahand_Start_te k).F s := by kernel_rfl
theorem bodegahand_Start_ok (k : Nat) : CallOk Tryz.prog 40 (bodegahand_Start_te k) :=
  fn_ok (C := bodegahand_Start_C k) (code := bodegahand_Start_code) (g := bodegahand_Start_sig) (k := k) (Fn := (bodegahand_Start_te k).F) mixed (tysOk _ _ _) (eqsOk _ _ _) (bodegahand_Start_tab k) Tryz.func40 (by kernel_rfl) (by kernel_rfl) (of_decide_eq_true (by kernel_rfl)) (by kernel_rfl) (by kernel_rfl) (by kernel_rfl)
    (fun s q h => ⟨bodegahand_Start_ac k, ok_of_fix _ _ (bodegahand_Start_fix k), (bodegahand_Start_eq k s).trans h⟩)

/-! #### bodega/bodegahand.View -/
noncomputable def bodegahand_View_J1 (k : Nat) (mask_1 : Int) (full_2 : Int) (boots_3 : (List Int)) (nodes_4 : Int) (t_10 : TView) (v_11 : TView) (any_12 : Bool) (i_13 : Int) (m_14 : TMember) (t_42 : Bool) : Option ((Int × Int × (List Int) × Int × TView × TView × Bool × Int × TMember × Unit)) :=
  bif t_42 then
    bif (decide ((0:Int) ≤ i_13) && decide (i_13 < (boots_3.length : Int))) then
      Option.bind (bodegahand_Pick k (boots_3.getD (i_13.toNat) (0:Int)) (31:Int)) fun r4 =>
      some (mask_1, full_2, boots_3, nodes_4, t_10, v_11, any_12, i_13, (m_14.1, (IntKind.i64.wrap (r4.1 + (1:Int))), m_14.2.2), ())
    else none
  else
    some (mask_1, full_2, boots_3, nodes_4, t_10, v_11, any_12, i_13, m_14, ())
noncomputable def bodegahand_View_L1 (k : Nat) (mask_1 : Int) (full_2 : Int) (boots_3 : (List Int)) (nodes_4 : Int) (t_10 : TView) (v_11 : TView) (any_12 : Bool) (i_13 : Int) : Option ((Int × Int × (List Int) × Int × TView × TView × Bool × Int × Unit) ⊕ ((TView × TView × Bool × Unit))) :=
  bif (decide (i_13 < nodes_4)) then
    Option.bind (bodegahand_Pick k mask_1 (32:Int)) fun r2 =>
    bif (decide ((0:Int) ≤ (IntKind.u64.wrap i_13))) then
      bif (decide ((iand .i64 (ishr .i64 r2.1 (IntKind.u64.wrap i_13)) (1:Int)) = (0:Int))) then
        some (.inl (mask_1, full_2, boots_3, nodes_4, t_10, v_11, any_12, (IntKind.i64.wrap (i_13 + (1:Int))), ()))
      else
        Option.bind (bodegahand_Pick k full_2 (32:Int)) fun r3 =>
        bif (decide ((0:Int) ≤ (IntKind.u64.wrap i_13))) then
          Option.bind (bodegahand_View_J1 k mask_1 full_2 boots_3 nodes_4 t_10 v_11 any_12 i_13 (i_13, (1:Int), (decide ((iand .i64 (ishr .i64 r3.1 (IntKind.u64.wrap i_13)) (1:Int)) = (1:Int))), ()) (decide (i_13 < (boots_3.length : Int)))) fun o5 =>
          bif (decide (o5.2.2.2.2.2.1.2.1.length + [o5.2.2.2.2.2.2.2.2.1].length < 1073741824)) then
            some (.inl (o5.1, o5.2.1, o5.2.2.1, o5.2.2.2.1, o5.2.2.2.2.1, (o5.2.2.2.2.2.1.1, (o5.2.2.2.2.2.1.2.1 ++ [o5.2.2.2.2.2.2.2.2.1]), o5.2.2.2.2.2.1.2.2), (bif o5.2.2.2.2.2.2.1 then true else o5.2.2.2.2.2.2.2.2.1.2.2.1), (IntKind.i64.wrap (o5.2.2.2.2.2.2.2.1 + (1:Int))), ()))
          else none
        else none
    else none
  else
    some (.inr (t_10, v_11, any_12, ()))
noncomputable def bodegahand_View_L1_it (k : Nat) (mask_1 : Int) (full_2 : Int) (boots_3 : (List Int)) (nodes_4 : Int) (t_10 : TView) (v_11 : TView) (any_12 : Bool) (i_13 : Int) : Option ((TView × TView × Bool × Unit)) :=
  iterO (fun s : Int × Int × (List Int) × Int × TView × TView × Bool × Int × Unit => bodegahand_View_L1 k s.1 s.2.1 s.2.2.1 s.2.2.2.1 s.2.2.2.2.1 s.2.2.2.2.2.1 s.2.2.2.2.2.2.1 s.2.2.2.2.2.2.2.1) k (mask_1, full_2, boots_3, nodes_4, t_10, v_11, any_12, i_13, ())
noncomputable def bodegahand_View_J2 (_k : Nat) (t_10 : TView) (v_11 : TView) (any_12 : Bool) (t_64 : Bool) : Option ((TView × TView × Bool × Unit)) :=
  bif t_64 then
    some (t_10, (v_11.1, [((0:Int), (1:Int), false, ())], v_11.2.2), any_12, ())
  else
    some (t_10, v_11, any_12, ())
noncomputable def bodegahand_View (k : Nat) (number_0 : Int) (mask_1 : Int) (full_2 : Int) (boots_3 : (List Int)) (nodes_4 : Int) : Option (TView × Unit) :=
  Option.bind (bodegahand_Pick k number_0 (16:Int)) fun r1 =>
  Option.bind (bodegahand_View_L1_it k mask_1 full_2 boots_3 nodes_4 ((0:Int), ([] : (List TMember)), ()) (r1.1, ([] : (List TMember)), ()) false (0:Int)) fun o6 =>
  Option.bind (bodegahand_View_J2 k o6.1 o6.2.1 o6.2.2.1 (decide ((o6.2.1.2.1.length : Int) = (0:Int)))) fun o7 =>
  bif (!o7.2.2.1) then
    bif (decide ((0:Int) ≤ (0:Int)) && decide ((0:Int) < (o7.2.1.2.1.length : Int))) then
      let v8 := (o7.2.1.1, (o7.2.1.2.1.set 0 ((o7.2.1.2.1.getD 0 ((0:Int), (0:Int), false, ())).1, (o7.2.1.2.1.getD 0 ((0:Int), (0:Int), false, ())).2.1, true, (o7.2.1.2.1.getD 0 ((0:Int), (0:Int), false, ())).2.2.2)), o7.2.1.2.2)
      some (v8, ())
    else none
  else
    some (o7.2.1, ())
def bodegahand_View_sig : Sig := ⟨[⟨false, (.int .i64), .s, .s⟩, ⟨false, (.int .i64), .s, .s⟩, ⟨false, (.int .i64), .s, .s⟩, ⟨false, (.list (.int .i64)), .s, .s⟩, ⟨false, (.int .i64), .s, .s⟩], [(y3, q2)]⟩
noncomputable def bodegahand_View_te (k : Nat) : TE := ⟨bodegahand_View_sig, fun s => bodegahand_View k s.1 s.2.1 s.2.2.1 s.2.2.2.1 s.2.2.2.2.1⟩
noncomputable def bodegahand_View_C (k : Nat) : Ctx := cx [(7, bodegahand_Pick_te k)] [] []
noncomputable def bodegahand_View_code : Code := Tryz.f44.body.getD .skip
theorem bodegahand_View_tab (k : Nat) : TabOk Tryz.prog (bodegahand_View_C k) := ⟨tab_cons (bodegahand_Pick_ok k) (tab_nil), lay_nil⟩
noncomputable def bodegahand_View_ac (k : Nat) : AC := (.sq .rg (.sq .rg (.sq .rg (.sq (.sq .rg (.bk (.lp [(1, .va (.int .i64) .s), (2, .va (.int .i64) .s), (3, .va (.list (.int .i64)) .s), (4, .va (.int .i64) .s), (10, .bo y3 q2), (11, .bo y3 q2), (12, .va .bool .s), (13, .va (.int .i64) .s)] [(.exit 0, [(10, .bo y3 q2), (11, .bo y3 q2), (12, .va .bool .s)])] (fun s => bodegahand_View_L1 k s.1 s.2.1 s.2.2.1 s.2.2.2.1 s.2.2.2.2.1 s.2.2.2.2.2.1 s.2.2.2.2.2.2.1 s.2.2.2.2.2.2.2.1) (.sq (.sq .rg (.cd .nx .nx)) (.sq (.bk (.sq (.sq .rg (.cd .nx .nx)) (.sq .rg (.sq (.sq .rg (.sm [(1, .va (.int .i64) .s), (2, .va (.int .i64) .s), (3, .va (.list (.int .i64)) .s), (4, .va (.int .i64) .s), (10, .bo y3 q2), (11, .bo y3 q2), (12, .va .bool .s), (13, .va (.int .i64) .s), (14, .bo y9 .s), (42, .va .bool .s)] [(.normal, [(1, .va (.int .i64) .s), (2, .va (.int .i64) .s), (3, .va (.list (.int .i64)) .s), (4, .va (.int .i64) .s), (10, .bo y3 q2), (11, .bo y3 q2), (12, .va .bool .s), (13, .va (.int .i64) .s), (14, .bo y9 .s)])] (fun s => bodegahand_View_J1 k s.1 s.2.1 s.2.2.1 s.2.2.2.1 s.2.2.2.2.1 s.2.2.2.2.2.1 s.2.2.2.2.2.2.1 s.2.2.2.2.2.2.2.1 s.2.2.2.2.2.2.2.2.1 s.2.2.2.2.2.2.2.2.2.1) (.cd .rg .nx))) (.sq .rg .rg))))) .rg))))) (.sq (.sq .rg (.sm [(10, .bo y3 q2), (11, .bo y3 q2), (12, .va .bool .s), (64, .va .bool .s)] [(.normal, [(10, .bo y3 q2), (11, .bo y3 q2), (12, .va .bool .s)])] (fun s => bodegahand_View_J2 k s.1 s.2.1 s.2.2.1 s.2.2.2.1) (.cd .rg .nx))) (.sq (.sq .rg (.cd .rg .nx)) (.sq .rg .nx)))))))
theorem bodegahand_View_fix (k : Nat) : acFix (bodegahand_View_C k) k 75 (bodegahand_View_ac k) bodegahand_View_code = bodegahand_View_ac k := by kernel_rfl
theorem bodegahand_View_eq (k : Nat) (s : bodegahand_View_sig.S) : fnEv (bodegahand_View_C k) k bodegahand_View_sig Tryz.f44 bodegahand_View_code (bodegahand_View_ac k) s = (bodegahand_View_te k).F s := by kernel_rfl
theorem bodegahand_View_ok (k : Nat) : CallOk Tryz.prog 44 (bodegahand_View_te k) :=
  fn_ok (C := bodegahand_View_C k) (code := bodegahand_View_code) (g := bodegahand_View_sig) (k := k) (Fn := (bodegahand_View_te k).F) mixed (tysOk _ _ _) (eqsOk _ _ _) (bodegahand_View_tab k) Tryz.func44 (by kernel_rfl) (by kernel_rfl) (of_decide_eq_true (by kernel_rfl)) (by kernel_rfl) (by kernel_rfl) (by kernel_rfl)
    (fun s q h => ⟨bodegahand_View_ac k, ok_of_fix _ _ (bodegahand_View_fix k), (bodegahand_View_eq k s).trans h⟩)

/-! #### (bodega/bodegalaw15.Raw).view -/
noncomputable def bodegalaw15_Raw_view_J1 (k : Nat) (nodes_1 : Int) (r_2 : TRaw) (t_4 : TView) (v_5 : TView) (t_11 : Bool) : Option ((TRaw × TView × TView × Unit)) :=
  bif t_11 then
    Option.bind (bodegahand_View k (0:Int) r_2.2.2.2.2.1 (31:Int) ([] : (List Int)) nodes_1) fun r3 =>
    some (r_2, t_4, r3.1, ())
  else
    some (r_2, t_4, v_5, ())
noncomputable def bodegalaw15_Raw_view (k : Nat) (r_0 : TRaw) (nodes_1 : Int) : Option (TView × Unit) :=
  Option.bind (bodegahand_Start k nodes_1) fun r1 =>
  Option.bind (bodegahand_Pick k r_0.2.2.2.2.1 (3:Int)) fun r2 =>
  Option.bind (bodegalaw15_Raw_view_J1 k nodes_1 r_0 ((0:Int), ([] : (List TMember)), ()) r1.1 (decide ((0:Int) < r2.1))) fun o4 =>
  Option.bind (bodegahand_Pick k o4.1.2.2.2.2.2.1 (12:Int)) fun r5 =>
  bif (decide (r5.1 = (0:Int))) then
    Option.bind (bodegahand_Pick k o4.1.2.2.2.2.2.1 (40:Int)) fun r6 =>
    some (((IntKind.i64.wrap (r6.1 - (4:Int))), o4.2.2.1.2), ())
  else
    some (o4.2.2.1, ())
def bodegalaw15_Raw_view_sig : Sig := ⟨[⟨false, y12, .s, .s⟩, ⟨false, (.int .i64), .s, .s⟩], [(y3, q2)]⟩
noncomputable def bodegalaw15_Raw_view_te (k : Nat) : TE := ⟨bodegalaw15_Raw_view_sig, fun s => bodegalaw15_Raw_view k s.1 s.2.1⟩
noncomputable def bodegalaw15_Raw_view_C (k : Nat) : Ctx := cx [(7, bodegahand_Pick_te k), (40, bodegahand_Start_te k), (44, bodegahand_View_te k)] [] []
noncomputable def bodegalaw15_Raw_view_code : Code := Tryz.f14.body.getD .skip
theorem bodegalaw15_Raw_view_tab (k : Nat) : TabOk Tryz.prog (bodegalaw15_Raw_view_C k) := ⟨tab_cons (bodegahand_Pick_ok k) (tab_cons (bodegahand_Start_ok k) (tab_cons (bodegahand_View_ok k) (tab_nil))), lay_nil⟩
noncomputable def bodegalaw15_Raw_view_ac (k : Nat) : AC := (.sq .rg (.sq .rg (.sq (.sq .rg (.sm [(1, .va (.int .i64) .s), (2, .bo y12 .s), (4, .bo y3 q2), (5, .bo y3 q2), (11, .va .bool .s)] [(.normal, [(2, .bo y12 .s), (4, .bo y3 q2), (5, .bo y3 q2)])] (fun s => bodegalaw15_Raw_view_J1 k s.1 s.2.1 s.2.2.1 s.2.2.2.1 s.2.2.2.2.1) (.cd .rg .nx))) (.sq (.sq .rg (.cd .rg .nx)) (.sq .rg .nx)))))
theorem bodegalaw15_Raw_view_fix (k : Nat) : acFix (bodegalaw15_Raw_view_C k) k 26 (bodegalaw15_Raw_view_ac k) bodegalaw15_Raw_view_code = bodegalaw15_Raw_view_ac k := by kernel_rfl
theorem bodegalaw15_Raw_view_eq (k : Nat) (s : bodegalaw15_Raw_view_sig.S) : fnEv (bodegalaw15_Raw_view_C k) k bodegalaw15_Raw_view_sig Tryz.f14 bodegalaw15_Raw_view_code (bodegalaw15_Raw_view_ac k) s = (bodegalaw15_Raw_view_te k).F s := by kernel_rfl
theorem bodegalaw15_Raw_view_ok (k : Nat) : CallOk Tryz.prog 14 (bodegalaw15_Raw_view_te k) :=
  fn_ok (C := bodegalaw15_Raw_view_C k) (code := bodegalaw15_Raw_view_code) (g := bodegalaw15_Raw_view_sig) (k := k) (Fn := (bodegalaw15_Raw_view_te k).F) mixed (tysOk _ _ _) (eqsOk _ _ _) (bodegalaw15_Raw_view_tab k) Tryz.func14 (by kernel_rfl) (by kernel_rfl) (of_decide_eq_true (by kernel_rfl)) (by kernel_rfl) (by kernel_rfl) (by kernel_rfl)
    (fun s q h => ⟨bodegalaw15_Raw_view_ac k, ok_of_fix _ _ (bodegalaw15_Raw_view_fix k), (bodegalaw15_Raw_view_eq k s).trans h⟩)

/-! #### (bodega/bodegalaw15.Raw).renew -/
noncomputable def bodegalaw15_Raw_renew (k : Nat) (r_0 : TRaw) (nodes_1 : Int) : Option (TRenewJob × Unit) :=
  Option.bind (bodegahand_Pick k r_0.1 (6:Int)) fun r1 =>
  Option.bind (bodegahand_Pick k r_0.2.1 (30:Int)) fun r2 =>
  Option.bind (bodegahand_Pick k r_0.2.2.1 (4294967296:Int)) fun r3 =>
  Option.bind (bodegalaw15_Raw_view k r_0 nodes_1) fun r4 =>
  Option.bind (bodegahand_Pick k r_0.2.2.2.2.2.1 (9:Int)) fun r5 =>
  bif (decide (r5.1 = (1:Int))) then
    some ((r_0.1, (IntKind.i64.wrap ((IntKind.i64.wrap ((2:Int) * r2.1)) + (1:Int))), r3.1, r4.1, ()), ())
  else
    bif (decide (r5.1 = (2:Int))) then
      some ((r1.1, r_0.2.1, r3.1, r4.1, ()), ())
    else
      bif (decide (r5.1 = (3:Int))) then
        some ((r1.1, (IntKind.i64.wrap ((IntKind.i64.wrap ((2:Int) * r2.1)) + (1:Int))), r_0.2.2.1, r4.1, ()), ())
      else
        some ((r1.1, (IntKind.i64.wrap ((IntKind.i64.wrap ((2:Int) * r2.1)) + (1:Int))), r3.1, r4.1, ()), ())
def bodegalaw15_Raw_renew_sig : Sig := ⟨[⟨false, y12, .s, .s⟩, ⟨false, (.int .i64), .s, .s⟩], [((.pair (.int .i64) y13), (.p .s (.p .s (.p .s (.p q2 .s)))))]⟩
noncomputable def bodegalaw15_Raw_renew_te (k : Nat) : TE := ⟨bodegalaw15_Raw_renew_sig, fun s => bodegalaw15_Raw_renew k s.1 s.2.1⟩
noncomputable def bodegalaw15_Raw_renew_C (k : Nat) : Ctx := cx [(7, bodegahand_Pick_te k), (14, bodegalaw15_Raw_view_te k)] [] []
noncomputable def bodegalaw15_Raw_renew_code : Code := Tryz.f8.body.getD .skip
theorem bodegalaw15_Raw_renew_tab (k : Nat) : TabOk Tryz.prog (bodegalaw15_Raw_renew_C k) := ⟨tab_cons (bodegahand_Pick_ok k) (tab_cons (bodegalaw15_Raw_view_ok k) (tab_nil)), lay_nil⟩
noncomputable def bodegalaw15_Raw_renew_ac (_k : Nat) : AC := (.sq .rg (.sq .rg (.sq (.sq .rg (.bk (.sq .rg (.cd .rg (.sq .rg (.cd .rg (.sq .rg (.cd .rg .nx)))))))) (.sq .rg .nx))))
theorem bodegalaw15_Raw_renew_fix (k : Nat) : acFix (bodegalaw15_Raw_renew_C k) k 40 (bodegalaw15_Raw_renew_ac k) bodegalaw15_Raw_renew_code = bodegalaw15_Raw_renew_ac k := by kernel_rfl
theorem bodegalaw15_Raw_renew_eq (k : Nat) (s : bodegalaw15_Raw_renew_sig.S) : fnEv (bodegalaw15_Raw_renew_C k) k bodegalaw15_Raw_renew_sig Tryz.f8 bodegalaw15_Raw_renew_code (bodegalaw15_Raw_renew_ac k) s = (bodegalaw15_Raw_renew_te k).F s := by kernel_rfl
theorem bodegalaw15_Raw_renew_ok (k : Nat) : CallOk Tryz.prog 8 (bodegalaw15_Raw_renew_te k) :=
  fn_ok (C := bodegalaw15_Raw_renew_C k) (code := bodegalaw15_Raw_renew_code) (g := bodegalaw15_Raw_renew_sig) (k := k) (Fn := (bodegalaw15_Raw_renew_te k).F) mixed (tysOk _ _ _) (eqsOk _ _ _) (bodegalaw15_Raw_renew_tab k) Tryz.func8 (by kernel_rfl) (by kernel_rfl) (of_decide_eq_true (by kernel_rfl)) (by kernel_rfl) (by kernel_rfl) (by kernel_rfl)
    (fun s q h => ⟨bodegalaw15_Raw_renew_ac k, ok_of_fix _ _ (bodegalaw15_Raw_renew_fix k), (bodegalaw15_Raw_renew_eq k s).trans h⟩)

/-! #### bodega/lease.isClient -/
noncomputable def lease_isClient (_k : Nat) (c_0 : Int) : Option (Bool × Unit) :=
  some ((bif (decide ((0:Int) ≤ c_0)) then (decide (c_0 < (6:Int))) else false), ())
def lease_isClient_sig : Sig := ⟨[⟨false, (.int .i64), .s, .s⟩], [(.bool, .s)]⟩
noncomputable def lease_isClient_te (k : Nat) : TE := ⟨lease_isClient_sig, fun s => lease_isClient k s.1⟩
noncomputable def lease_isClient_C (_k : Nat) : Ctx := cx [] [] []
noncomputable def lease_isClient_code : Code := Tryz.f26.body.getD .skip
theorem lease_isClient_tab (k : Nat) : TabOk Tryz.prog (lease_isClient_C k) := ⟨tab_nil, lay_nil⟩
noncomputable def lease_isClient_ac (_k : Nat) : AC := (.sq .rg (.sq .rg .nx))
theorem lease_isClient_fix (k : Nat) : acFix (lease_isClient_C k) k 9 (lease_isClient_ac k) lease_isClient_code = lease_isClient_ac k := by kernel_rfl
theorem lease_isClient_eq (k : Nat) (s : lease_isClient_sig.S) : fnEv (lease_isClient_C k) k lease_isClient_sig Tryz.f26 lease_isClient_code (lease_isClient_ac k) s = (lease_isClient_te k).F s := by kernel_rfl
theorem lease_isClient_ok (k : Nat) : CallOk Tryz.prog 26 (lease_isClient_te k) :=
  fn_ok (C := lease_isClient_C k) (code := lease_isClient_code) (g := lease_isClient_sig) (k := k) (Fn := (lease_isClient_te k).F) mixed (tysOk _ _ _) (eqsOk _ _ _) (lease_isClient_tab k) Tryz.func26 (by kernel_rfl) (by kernel_rfl) (of_decide_eq_true (by kernel_rfl)) (by kernel_rfl) (by kernel_rfl) (by kernel_rfl)
    (fun s q h => ⟨lease_isClient_ac k, ok_of_fix _ _ (lease_isClient_fix k), (lease_isClient_eq k s).trans h⟩)

/-! #### bodega/word.within(int) -/
noncomputable def word_within (_k : Nat) (x_0 : Int) (least_1 : Int) (most_2 : Int) : Option (Bool × Unit) :=
  some ((bif (decide (least_1 ≤ x_0)) then (decide (x_0 ≤ most_2)) else false), ())
def word_within_sig : Sig := ⟨[⟨false, (.int .i64), .s, .s⟩, ⟨false, (.int .i64), .s, .s⟩, ⟨false, (.int .i64), .s, .s⟩], [(.bool, .s)]⟩
noncomputable def word_within_te (k : Nat) : TE := ⟨word_within_sig, fun s => word_within k s.1 s.2.1 s.2.2.1⟩
noncomputable def word_within_C (_k : Nat) : Ctx := cx [] [] []
noncomputable def word_within_code : Code := Tryz.f58.body.getD .skip
theorem word_within_tab (k : Nat) : TabOk Tryz.prog (word_within_C k) := ⟨tab_nil, lay_nil⟩
noncomputable def word_within_ac (_k : Nat) : AC := (.sq .rg (.sq .rg .nx))
theorem word_within_fix (k : Nat) : acFix (word_within_C k) k 15 (word_within_ac k) word_within_code = word_within_ac k := by kernel_rfl
theorem word_within_eq (k : Nat) (s : word_within_sig.S) : fnEv (word_within_C k) k word_within_sig Tryz.f58 word_within_code (word_within_ac k) s = (word_within_te k).F s := by kernel_rfl
theorem word_within_ok (k : Nat) : CallOk Tryz.prog 58 (word_within_te k) :=
  fn_ok (C := word_within_C k) (code := word_within_code) (g := word_within_sig) (k := k) (Fn := (word_within_te k).F) mixed (tysOk _ _ _) (eqsOk _ _ _) (word_within_tab k) Tryz.func58 (by kernel_rfl) (by kernel_rfl) (of_decide_eq_true (by kernel_rfl)) (by kernel_rfl) (by kernel_rfl) (by kernel_rfl)
    (fun s q h => ⟨word_within_ac k, ok_of_fix _ _ (word_within_fix k), (word_within_eq k s).trans h⟩)

/-! #### bodega/word.isInc -/
noncomputable def word_isInc (k : Nat) (inc_0 : Int) : Option (Bool × Unit) :=
  Option.bind (word_within k inc_0 (1:Int) (59:Int)) fun r1 =>
  some ((bif r1.1 then (decide ((Int.tmod inc_0 (2:Int)) = (1:Int))) else false), ())
def word_isInc_sig : Sig := ⟨[⟨false, (.int .i64), .s, .s⟩], [(.bool, .s)]⟩
noncomputable def word_isInc_te (k : Nat) : TE := ⟨word_isInc_sig, fun s => word_isInc k s.1⟩
noncomputable def word_isInc_C (k : Nat) : Ctx := cx [(58, word_within_te k)] [] []
noncomputable def word_isInc_code : Code := Tryz.f57.body.getD .skip
theorem word_isInc_tab (k : Nat) : TabOk Tryz.prog (word_isInc_C k) := ⟨tab_cons (word_within_ok k) (tab_nil), lay_nil⟩
noncomputable def word_isInc_ac (_k : Nat) : AC := (.sq .rg (.sq .rg .nx))
theorem word_isInc_fix (k : Nat) : acFix (word_isInc_C k) k 10 (word_isInc_ac k) word_isInc_code = word_isInc_ac k := by kernel_rfl
theorem word_isInc_eq (k : Nat) (s : word_isInc_sig.S) : fnEv (word_isInc_C k) k word_isInc_sig Tryz.f57 word_isInc_code (word_isInc_ac k) s = (word_isInc_te k).F s := by kernel_rfl
theorem word_isInc_ok (k : Nat) : CallOk Tryz.prog 57 (word_isInc_te k) :=
  fn_ok (C := word_isInc_C k) (code := word_isInc_code) (g := word_isInc_sig) (k := k) (Fn := (word_isInc_te k).F) mixed (tysOk _ _ _) (eqsOk _ _ _) (word_isInc_tab k) Tryz.func57 (by kernel_rfl) (by kernel_rfl) (of_decide_eq_true (by kernel_rfl)) (by kernel_rfl) (by kernel_rfl) (by kernel_rfl)
    (fun s q h => ⟨word_isInc_ac k, ok_of_fix _ _ (word_isInc_fix k), (word_isInc_eq k s).trans h⟩)

/-! #### bodega/word.Lease -/
noncomputable def word_Lease (k : Nat) (inc_0 : Int) (until_1 : Int) : Option (Int × Int × Unit) :=
  Option.bind (word_isInc k inc_0) fun r1 =>
  bif (!r1.1) then
    some ((0:Int), (2:Int), ())
  else
    Option.bind (word_within k until_1 (0:Int) (4294967295:Int)) fun r2 =>
    bif (!r2.1) then
      some ((0:Int), (1:Int), ())
    else
      some ((ior .u64 (ishl .u64 (IntKind.u64.wrap inc_0) (32:Int)) (IntKind.u64.wrap until_1)), (0:Int), ())
def word_Lease_sig : Sig := ⟨[⟨false, (.int .i64), .s, .s⟩, ⟨false, (.int .i64), .s, .s⟩], [((.int .u64), .s), ((.int .i64), .s)]⟩
noncomputable def word_Lease_te (k : Nat) : TE := ⟨word_Lease_sig, fun s => word_Lease k s.1 s.2.1⟩
noncomputable def word_Lease_C (k : Nat) : Ctx := cx [(57, word_isInc_te k), (58, word_within_te k)] [] []
noncomputable def word_Lease_code : Code := Tryz.f27.body.getD .skip
theorem word_Lease_tab (k : Nat) : TabOk Tryz.prog (word_Lease_C k) := ⟨tab_cons (word_isInc_ok k) (tab_cons (word_within_ok k) (tab_nil)), lay_nil⟩
noncomputable def word_Lease_ac (_k : Nat) : AC := (.sq .rg (.sq (.bk (.sq .rg (.cd (.sq .rg .nx) (.sq .rg (.cd (.sq .rg .nx) .nx))))) (.sq .rg .nx)))
theorem word_Lease_fix (k : Nat) : acFix (word_Lease_C k) k 20 (word_Lease_ac k) word_Lease_code = word_Lease_ac k := by kernel_rfl
theorem word_Lease_eq (k : Nat) (s : word_Lease_sig.S) : fnEv (word_Lease_C k) k word_Lease_sig Tryz.f27 word_Lease_code (word_Lease_ac k) s = (word_Lease_te k).F s := by kernel_rfl
theorem word_Lease_ok (k : Nat) : CallOk Tryz.prog 27 (word_Lease_te k) :=
  fn_ok (C := word_Lease_C k) (code := word_Lease_code) (g := word_Lease_sig) (k := k) (Fn := (word_Lease_te k).F) mixed (tysOk _ _ _) (eqsOk _ _ _) (word_Lease_tab k) Tryz.func27 (by kernel_rfl) (by kernel_rfl) (of_decide_eq_true (by kernel_rfl)) (by kernel_rfl) (by kernel_rfl) (by kernel_rfl)
    (fun s q h => ⟨word_Lease_ac k, ok_of_fix _ _ (word_Lease_fix k), (word_Lease_eq k s).trans h⟩)

/-! #### bodega/view.isNodes -/
noncomputable def view_isNodes (_k : Nat) (nodes_0 : Int) : Option (Bool × Unit) :=
  some ((bif (decide ((1:Int) ≤ nodes_0)) then (decide (nodes_0 ≤ (5:Int))) else false), ())
def view_isNodes_sig : Sig := ⟨[⟨false, (.int .i64), .s, .s⟩], [(.bool, .s)]⟩
noncomputable def view_isNodes_te (k : Nat) : TE := ⟨view_isNodes_sig, fun s => view_isNodes k s.1⟩
noncomputable def view_isNodes_C (_k : Nat) : Ctx := cx [] [] []
noncomputable def view_isNodes_code : Code := Tryz.f59.body.getD .skip
theorem view_isNodes_tab (k : Nat) : TabOk Tryz.prog (view_isNodes_C k) := ⟨tab_nil, lay_nil⟩
noncomputable def view_isNodes_ac (_k : Nat) : AC := (.sq .rg (.sq .rg .nx))
theorem view_isNodes_fix (k : Nat) : acFix (view_isNodes_C k) k 9 (view_isNodes_ac k) view_isNodes_code = view_isNodes_ac k := by kernel_rfl
theorem view_isNodes_eq (k : Nat) (s : view_isNodes_sig.S) : fnEv (view_isNodes_C k) k view_isNodes_sig Tryz.f59 view_isNodes_code (view_isNodes_ac k) s = (view_isNodes_te k).F s := by kernel_rfl
theorem view_isNodes_ok (k : Nat) : CallOk Tryz.prog 59 (view_isNodes_te k) :=
  fn_ok (C := view_isNodes_C k) (code := view_isNodes_code) (g := view_isNodes_sig) (k := k) (Fn := (view_isNodes_te k).F) mixed (tysOk _ _ _) (eqsOk _ _ _) (view_isNodes_tab k) Tryz.func59 (by kernel_rfl) (by kernel_rfl) (of_decide_eq_true (by kernel_rfl)) (by kernel_rfl) (by kernel_rfl) (by kernel_rfl)
    (fun s q h => ⟨view_isNodes_ac k, ok_of_fix _ _ (view_isNodes_fix k), (view_isNodes_eq k s).trans h⟩)

/-! #### bodega/view.isFull -/
noncomputable def view_isFull (_k : Nat) (m_0 : TMember) : Option (Bool × Unit) :=
  some (m_0.2.2.1, ())
def view_isFull_sig : Sig := ⟨[⟨false, y9, .s, .s⟩], [(.bool, .s)]⟩
noncomputable def view_isFull_te (k : Nat) : TE := ⟨view_isFull_sig, fun s => view_isFull k s.1⟩
noncomputable def view_isFull_C (_k : Nat) : Ctx := cx [] [] []
noncomputable def view_isFull_code : Code := Tryz.f61.body.getD .skip
theorem view_isFull_tab (k : Nat) : TabOk Tryz.prog (view_isFull_C k) := ⟨tab_nil, lay_nil⟩
noncomputable def view_isFull_ac (_k : Nat) : AC := (.sq .rg (.sq .rg .nx))
theorem view_isFull_fix (k : Nat) : acFix (view_isFull_C k) k 5 (view_isFull_ac k) view_isFull_code = view_isFull_ac k := by kernel_rfl
theorem view_isFull_eq (k : Nat) (s : view_isFull_sig.S) : fnEv (view_isFull_C k) k view_isFull_sig Tryz.f61 view_isFull_code (view_isFull_ac k) s = (view_isFull_te k).F s := by kernel_rfl
theorem view_isFull_ok (k : Nat) : CallOk Tryz.prog 61 (view_isFull_te k) :=
  fn_ok (C := view_isFull_C k) (code := view_isFull_code) (g := view_isFull_sig) (k := k) (Fn := (view_isFull_te k).F) mixed (tysOk _ _ _) (eqsOk _ _ _) (view_isFull_tab k) Tryz.func61 (by kernel_rfl) (by kernel_rfl) (of_decide_eq_true (by kernel_rfl)) (by kernel_rfl) (by kernel_rfl) (by kernel_rfl)
    (fun s q h => ⟨view_isFull_ac k, ok_of_fix _ _ (view_isFull_fix k), (view_isFull_eq k s).trans h⟩)

end Go.Proofs.YtkgjdglkkoabmaaGreat.N

set_option maxRecDepth 1000000
namespace Go.Proofs.YtkgjdglkkoabmaaGreat.N
open Go.VL Go.Proofs

/-! #### slices.IndexFunc(()bodega/api.Member,bodega/api.Member) -/
noncomputable def slices_IndexFunc_isFull_L1 (k : Nat) (t_0 : (List TMember)) (_f_1 : Unit) (t_7 : Int) (t_8 : Int) : Option (((List TMember) × Unit × Int × Int × Unit) ⊕ ((Int × Unit) ⊕ (Unit))) :=
  bif (decide (t_8 < t_7)) then
    bif (decide ((0:Int) ≤ t_8) && decide (t_8 < (t_0.length : Int))) then
      Option.bind (view_isFull k (t_0.getD (t_8.toNat) ((0:Int), (0:Int), false, ()))) fun r1 =>
      bif r1.1 then
        some (.inr (.inl (t_8, ())))
      else
        some (.inl (t_0, (), t_7, (IntKind.i64.wrap (t_8 + (1:Int))), ()))
    else none
  else
    some (.inr (.inr ()))
noncomputable def slices_IndexFunc_isFull_L1_it (k : Nat) (t_0 : (List TMember)) (f_1 : Unit) (t_7 : Int) (t_8 : Int) : Option ((Int × Unit) ⊕ (Unit)) :=
  iterO (fun s : (List TMember) × Unit × Int × Int × Unit => slices_IndexFunc_isFull_L1 k s.1 s.2.1 s.2.2.1 s.2.2.2.1) k (t_0, f_1, t_7, t_8, ())
noncomputable def slices_IndexFunc_isFull (k : Nat) (t_0 : (List TMember)) : Option (Int × Unit) :=
  Option.bind (slices_IndexFunc_isFull_L1_it k t_0 () (t_0.length : Int) (0:Int)) fun o2 =>
  Sum.elim (fun o3 =>
    some (o3.1, ())) (fun _o4 =>
    some ((-1:Int), ())) o2
def slices_IndexFunc_sig : Sig := ⟨[⟨false, (.list y9), .s, .s⟩, ⟨false, .fn, .s, .s⟩], [((.int .i64), .s)]⟩
noncomputable def slices_IndexFunc_te (k : Nat) : TE := ⟨slices_IndexFunc_sig, fun s => match s.2.1 with | some n => (match Nat.beq n 61 with | true => slices_IndexFunc_isFull k s.1 | false => none) | none => none⟩
noncomputable def slices_IndexFunc_C (k : Nat) : Ctx := cx [(61, view_isFull_te k)] [] []
noncomputable def slices_IndexFunc_code : Code := Tryz.f85.body.getD .skip
theorem slices_IndexFunc_tab (k : Nat) : TabOk Tryz.prog (slices_IndexFunc_C k) := ⟨tab_cons (view_isFull_ok k) (tab_nil), lay_nil⟩
noncomputable def slices_IndexFunc_isFull_ac (k : Nat) : AC := (.sq .rg (.sq (.sq .rg (.bk (.lp [(0, .va (.list y9) .s), (1, .fu 61), (7, .va (.int .i64) .s), (8, .va (.int .i64) .s)] [(.ret, [(4, .va (.int .i64) .s)]), (.exit 0, [])] (fun s => slices_IndexFunc_isFull_L1 k s.1 s.2.1 s.2.2.1 s.2.2.2.1) (.sq .rg (.sq (.cd .nx .nx) (.sq (.bk (.sq .rg (.sq .rg (.cd (.sq .rg .nx) .nx)))) .rg)))))) (.sq .rg .nx)))
theorem slices_IndexFunc_isFull_fix (k : Nat) : acFix (slices_IndexFunc_C k) k 19 (slices_IndexFunc_isFull_ac k) slices_IndexFunc_code = slices_IndexFunc_isFull_ac k := by kernel_rfl
theorem slices_IndexFunc_isFull_eq (k : Nat) (x0 : (List TMember)) : fnEv (slices_IndexFunc_C k) k slices_IndexFunc_sig Tryz.f85 slices_IndexFunc_code (slices_IndexFunc_isFull_ac k) (x0, (some 61), ()) = slices_IndexFunc_isFull k x0 := by kernel_rfl
theorem slices_IndexFunc_ok (k : Nat) : CallOk Tryz.prog 85 (slices_IndexFunc_te k) :=
  fn_ok (C := slices_IndexFunc_C k) (code := slices_IndexFunc_code) (g := slices_IndexFunc_sig) (k := k) (Fn := (slices_IndexFunc_te k).F) mixed (tysOk _ _ _) (eqsOk _ _ _) (slices_IndexFunc_tab k) Tryz.func85 (by kernel_rfl) (by kernel_rfl) (of_decide_eq_true (by kernel_rfl)) (by kernel_rfl) (by kernel_rfl) (by kernel_rfl)
    (by
      rintro ⟨x0, x1, u⟩ q h
      cases u
      cases x1 with
      | none => cases h
      | some n =>
        by_cases hn : n = 61
        · subst hn; exact ⟨slices_IndexFunc_isFull_ac k, ok_of_fix _ _ (slices_IndexFunc_isFull_fix k), (slices_IndexFunc_isFull_eq k x0).trans h⟩
        have hb61 : Nat.beq n 61 = false := by cases hq : Nat.beq n 61 with | false => rfl | true => exact absurd (Nat.eq_of_beq_eq_true hq) hn
        simp [slices_IndexFunc_te, hb61] at h)

/-! #### slices.ContainsFunc(()bodega/api.Member,bodega/api.Member) -/
noncomputable def slices_ContainsFunc_isFull (k : Nat) (t_0 : (List TMember)) : Option (Bool × Unit) :=
  Option.bind (slices_IndexFunc_isFull k t_0) fun r1 =>
  some ((decide ((0:Int) ≤ r1.1)), ())
def slices_ContainsFunc_sig : Sig := ⟨[⟨false, (.list y9), .s, .s⟩, ⟨false, .fn, .s, .s⟩], [(.bool, .s)]⟩
noncomputable def slices_ContainsFunc_te (k : Nat) : TE := ⟨slices_ContainsFunc_sig, fun s => match s.2.1 with | some n => (match Nat.beq n 61 with | true => slices_ContainsFunc_isFull k s.1 | false => none) | none => none⟩
noncomputable def slices_ContainsFunc_C (k : Nat) : Ctx := cx [(85, slices_IndexFunc_te k)] [] []
noncomputable def slices_ContainsFunc_code : Code := Tryz.f60.body.getD .skip
theorem slices_ContainsFunc_tab (k : Nat) : TabOk Tryz.prog (slices_ContainsFunc_C k) := ⟨tab_cons (slices_IndexFunc_ok k) (tab_nil), lay_nil⟩
noncomputable def slices_ContainsFunc_isFull_ac (_k : Nat) : AC := (.sq .rg (.sq .rg .nx))
theorem slices_ContainsFunc_isFull_fix (k : Nat) : acFix (slices_ContainsFunc_C k) k 9 (slices_ContainsFunc_isFull_ac k) slices_ContainsFunc_code = slices_ContainsFunc_isFull_ac k := by kernel_rfl
theorem slices_ContainsFunc_isFull_eq (k : Nat) (x0 : (List TMember)) : fnEv (slices_ContainsFunc_C k) k slices_ContainsFunc_sig Tryz.f60 slices_ContainsFunc_code (slices_ContainsFunc_isFull_ac k) (x0, (some 61), ()) = slices_ContainsFunc_isFull k x0 := by kernel_rfl
theorem slices_ContainsFunc_ok (k : Nat) : CallOk Tryz.prog 60 (slices_ContainsFunc_te k) :=
  fn_ok (C := slices_ContainsFunc_C k) (code := slices_ContainsFunc_code) (g := slices_ContainsFunc_sig) (k := k) (Fn := (slices_ContainsFunc_te k).F) mixed (tysOk _ _ _) (eqsOk _ _ _) (slices_ContainsFunc_tab k) Tryz.func60 (by kernel_rfl) (by kernel_rfl) (of_decide_eq_true (by kernel_rfl)) (by kernel_rfl) (by kernel_rfl) (by kernel_rfl)
    (by
      rintro ⟨x0, x1, u⟩ q h
      cases u
      cases x1 with
      | none => cases h
      | some n =>
        by_cases hn : n = 61
        · subst hn; exact ⟨slices_ContainsFunc_isFull_ac k, ok_of_fix _ _ (slices_ContainsFunc_isFull_fix k), (slices_ContainsFunc_isFull_eq k x0).trans h⟩
        have hb61 : Nat.beq n 61 = false := by cases hq : Nat.beq n 61 with | false => rfl | true => exact absurd (Nat.eq_of_beq_eq_true hq) hn
        simp [slices_ContainsFunc_te, hb61] at h)

/-! #### bodega/view.Valid -/
noncomputable def view_Valid_L1 (_k : Nat) (nodes_1 : Int) (v_2 : TView) (t_28 : (List TMember)) (t_29 : Int) (t_30 : Int) : Option ((Int × TView × (List TMember) × Int × Int × Unit) ⊕ ((Int × Unit) ⊕ (TView × Unit))) :=
  bif (decide (t_30 < t_29)) then
    bif (decide ((0:Int) ≤ t_30) && decide (t_30 < (t_28.length : Int))) then
      bif ((decide ((0:Int) ≤ (IntKind.i64.wrap (t_30 - (1:Int)))) && decide ((IntKind.i64.wrap (t_30 - (1:Int))) < (v_2.2.1.length : Int))) || (!((decide ((0:Int) < t_30)) && (!(bif (decide ((t_28.getD (t_30.toNat) ((0:Int), (0:Int), false, ())).1 < (0:Int))) then true else (decide (nodes_1 ≤ (t_28.getD (t_30.toNat) ((0:Int), (0:Int), false, ())).1))))))) then
        bif (bif (bif (decide ((t_28.getD (t_30.toNat) ((0:Int), (0:Int), false, ())).1 < (0:Int))) then true else (decide (nodes_1 ≤ (t_28.getD (t_30.toNat) ((0:Int), (0:Int), false, ())).1))) then true else (bif (decide ((0:Int) < t_30)) then (decide ((t_28.getD (t_30.toNat) ((0:Int), (0:Int), false, ())).1 ≤ (v_2.2.1.getD ((IntKind.i64.wrap (t_30 - (1:Int))).toNat) ((0:Int), (0:Int), false, ())).1)) else false)) then
          some (.inr (.inl ((1:Int), ())))
        else
          some (.inl (nodes_1, v_2, t_28, t_29, (IntKind.i64.wrap (t_30 + (1:Int))), ()))
      else none
    else none
  else
    some (.inr (.inr (v_2, ())))
noncomputable def view_Valid_L1_it (k : Nat) (nodes_1 : Int) (v_2 : TView) (t_28 : (List TMember)) (t_29 : Int) (t_30 : Int) : Option ((Int × Unit) ⊕ (TView × Unit)) :=
  iterO (fun s : Int × TView × (List TMember) × Int × Int × Unit => view_Valid_L1 k s.1 s.2.1 s.2.2.1 s.2.2.2.1 s.2.2.2.2.1) k (nodes_1, v_2, t_28, t_29, t_30, ())
noncomputable def view_Valid_L2 (_k : Nat) (v_2 : TView) (t_62 : (List TMember)) (t_63 : Int) (t_64 : Int) : Option ((TView × (List TMember) × Int × Int × Unit) ⊕ ((Int × Unit) ⊕ (TView × Unit))) :=
  bif (decide (t_64 < t_63)) then
    bif (decide ((0:Int) ≤ t_64) && decide (t_64 < (t_62.length : Int))) then
      bif (bif (decide ((t_62.getD (t_64.toNat) ((0:Int), (0:Int), false, ())).2.1 < (1:Int))) then true else (decide ((31:Int) < (t_62.getD (t_64.toNat) ((0:Int), (0:Int), false, ())).2.1))) then
        some (.inr (.inl ((2:Int), ())))
      else
        some (.inl (v_2, t_62, t_63, (IntKind.i64.wrap (t_64 + (1:Int))), ()))
    else none
  else
    some (.inr (.inr (v_2, ())))
noncomputable def view_Valid_L2_it (k : Nat) (v_2 : TView) (t_62 : (List TMember)) (t_63 : Int) (t_64 : Int) : Option ((Int × Unit) ⊕ (TView × Unit)) :=
  iterO (fun s : TView × (List TMember) × Int × Int × Unit => view_Valid_L2 k s.1 s.2.1 s.2.2.1 s.2.2.2.1) k (v_2, t_62, t_63, t_64, ())
noncomputable def view_Valid (k : Nat) (v_0 : TView) (nodes_1 : Int) : Option (Int × Unit) :=
  Option.bind (view_isNodes k nodes_1) fun r1 =>
  bif (!r1.1) then
    some ((1:Int), ())
  else
    bif (bif (decide (v_0.1 < (0:Int))) then true else (decide ((16:Int) ≤ v_0.1))) then
      some ((2:Int), ())
    else
      bif (decide ((v_0.2.1.length : Int) = (0:Int))) then
        some ((1:Int), ())
      else
        Option.bind (view_Valid_L1_it k nodes_1 v_0 v_0.2.1 (v_0.2.1.length : Int) (0:Int)) fun o2 =>
        Sum.elim (fun o3 =>
          some (o3.1, ())) (fun o4 =>
          Option.bind (view_Valid_L2_it k o4.1 o4.1.2.1 (o4.1.2.1.length : Int) (0:Int)) fun o5 =>
          Sum.elim (fun o6 =>
            some (o6.1, ())) (fun o7 =>
            Option.bind (slices_ContainsFunc_isFull k o7.1.2.1) fun r8 =>
            bif (!r8.1) then
              some ((13:Int), ())
            else
              some ((0:Int), ())) o5) o2
def view_Valid_sig : Sig := ⟨[⟨false, y3, .s, .s⟩, ⟨false, (.int .i64), .s, .s⟩], [((.int .i64), .s)]⟩
noncomputable def view_Valid_te (k : Nat) : TE := ⟨view_Valid_sig, fun s => view_Valid k s.1 s.2.1⟩
noncomputable def view_Valid_C (k : Nat) : Ctx := cx [(59, view_isNodes_te k), (60, slices_ContainsFunc_te k)] [] []
noncomputable def view_Valid_code : Code := Tryz.f28.body.getD .skip
theorem view_Valid_tab (k : Nat) : TabOk Tryz.prog (view_Valid_C k) := ⟨tab_cons (view_isNodes_ok k) (tab_cons (slices_ContainsFunc_ok k) (tab_nil)), lay_nil⟩
noncomputable def view_Valid_ac (k : Nat) : AC := (.sq .rg (.sq (.bk (.sq .rg (.cd (.sq .rg .nx) (.sq .rg (.cd (.sq .rg .nx) (.sq .rg (.cd (.sq .rg .nx) .nx))))))) (.sq (.sq .rg (.bk (.lp [(1, .va (.int .i64) .s), (2, .bo y3 .s), (28, .va (.list y9) .s), (29, .va (.int .i64) .s), (30, .va (.int .i64) .s)] [(.ret, [(4, .va (.int .i64) .s)]), (.exit 1, [(2, .bo y3 .s)])] (fun s => view_Valid_L1 k s.1 s.2.1 s.2.2.1 s.2.2.2.1 s.2.2.2.2.1) (.sq .rg (.sq (.cd .nx .nx) (.sq (.bk (.sq .rg (.sq .rg (.cd (.sq .rg .nx) .nx)))) .rg)))))) (.sq (.sq .rg (.bk (.lp [(2, .bo y3 .s), (62, .va (.list y9) .s), (63, .va (.int .i64) .s), (64, .va (.int .i64) .s)] [(.ret, [(4, .va (.int .i64) .s)]), (.exit 3, [(2, .bo y3 .s)])] (fun s => view_Valid_L2 k s.1 s.2.1 s.2.2.1 s.2.2.2.1) (.sq .rg (.sq (.cd .nx .nx) (.sq (.bk (.sq .rg (.sq .rg (.cd (.sq .rg .nx) .nx)))) .rg)))))) (.sq (.sq .rg (.cd (.sq .rg .nx) .nx)) (.sq .rg .nx))))))
theorem view_Valid_fix (k : Nat) : acFix (view_Valid_C k) k 81 (view_Valid_ac k) view_Valid_code = view_Valid_ac k := by kernel_rfl
theorem view_Valid_eq (k : Nat) (s : view_Valid_sig.S) : fnEv (view_Valid_C k) k view_Valid_sig Tryz.f28 view_Valid_code (view_Valid_ac k) s = (view_Valid_te k).F s := by kernel_rfl
theorem view_Valid_ok (k : Nat) : CallOk Tryz.prog 28 (view_Valid_te k) :=
  fn_ok (C := view_Valid_C k) (code := view_Valid_code) (g := view_Valid_sig) (k := k) (Fn := (view_Valid_te k).F) mixed (tysOk _ _ _) (eqsOk _ _ _) (view_Valid_tab k) Tryz.func28 (by kernel_rfl) (by kernel_rfl) (of_decide_eq_true (by kernel_rfl)) (by kernel_rfl) (by kernel_rfl) (by kernel_rfl)
    (fun s q h => ⟨view_Valid_ac k, ok_of_fix _ _ (view_Valid_fix k), (view_Valid_eq k s).trans h⟩)

/-! #### bodega/layout.region$1 -/
noncomputable def layout_region_1 (_k : Nat) (i_0 : Int) (t_1 : Int) (t_2 : Int) : Option (Int × Int × Int × Unit) :=
  bif (bif (decide (i_0 < (0:Int))) then true else (decide (t_1 ≤ i_0))) then
    some ((-1:Int), t_1, t_2, ())
  else
    some ((IntKind.i64.wrap ((IntKind.i64.wrap (t_2 * (8:Int))) + i_0)), t_1, t_2, ())
def layout_region_1_sig : Sig := ⟨[⟨false, (.int .i64), .s, .s⟩, ⟨true, (.int .i64), .s, .s⟩, ⟨true, (.int .i64), .s, .s⟩], [((.int .i64), .s)]⟩
noncomputable def layout_region_1_te (k : Nat) : TE := ⟨layout_region_1_sig, fun s => layout_region_1 k s.1 s.2.1 s.2.2.1⟩
noncomputable def layout_region_1_C (_k : Nat) : Ctx := cx [] [] []
noncomputable def layout_region_1_code : Code := Tryz.f86.body.getD .skip
theorem layout_region_1_tab (k : Nat) : TabOk Tryz.prog (layout_region_1_C k) := ⟨tab_nil, lay_nil⟩
noncomputable def layout_region_1_ac (_k : Nat) : AC := (.sq .rg (.sq (.sq .rg (.cd (.sq .rg .nx) .nx)) (.sq .rg .nx)))
theorem layout_region_1_fix (k : Nat) : acFix (layout_region_1_C k) k 16 (layout_region_1_ac k) layout_region_1_code = layout_region_1_ac k := by kernel_rfl
theorem layout_region_1_eq (k : Nat) (s : layout_region_1_sig.S) : fnEv (layout_region_1_C k) k layout_region_1_sig Tryz.f86 layout_region_1_code (layout_region_1_ac k) s = (layout_region_1_te k).F s := by kernel_rfl
theorem layout_region_1_ok (k : Nat) : CallOk Tryz.prog 86 (layout_region_1_te k) :=
  fn_ok (C := layout_region_1_C k) (code := layout_region_1_code) (g := layout_region_1_sig) (k := k) (Fn := (layout_region_1_te k).F) mixed (tysOk _ _ _) (eqsOk _ _ _) (layout_region_1_tab k) Tryz.func86 (by kernel_rfl) (by kernel_rfl) (of_decide_eq_true (by kernel_rfl)) (by kernel_rfl) (by kernel_rfl) (by kernel_rfl)
    (fun s q h => ⟨layout_region_1_ac k, ok_of_fix _ _ (layout_region_1_fix k), (layout_region_1_eq k s).trans h⟩)

/-! #### bodega/layout.Lease -/
noncomputable def layout_region_env (A B : Int) : Env := (ev (cx [] []) 0 6 (.sq .rg (.sq .rg .nx)) (Tryz.f62.body.getD .skip) (paramsOn ps2 (A, B, ()) 0 (List.replicate 6 ⟨0, 0, [], .undef⟩)) (fun ex e => match ex with | .exit _ => none | _ => some e)).getD []
theorem layout_region_clo (A B : Int) : CloRet Tryz.prog 62 86 A B B A :=
  clo_ret (C := cx [] []) (k := 0) (ac := .sq .rg (.sq .rg .nx)) (env := layout_region_env A B) (sR := 4) (r1 := 3) (r2 := 2) (e1 := 1) (e2 := 1) (code := Tryz.f62.body.getD .skip) mixed (tysOk _ _) (eqsOk _ _) ⟨tab_nil, lay_nil⟩ Tryz.func62 (by kernel_rfl) (by kernel_rfl) (of_decide_eq_true (by kernel_rfl)) (by kernel_rfl) (by kernel_rfl) (of_decide_eq_true (by kernel_rfl)) ⟨trivial, trivial, trivial⟩ (by kernel_rfl) (by kernel_rfl) (by kernel_rfl) (by kernel_rfl) (by decide) (by kernel_rfl) (by kernel_rfl)
noncomputable def layout_Lease (k : Nat) (c : Int) : Option (Int × Unit) := Option.bind (layout_region_1 k c (6:Int) (5:Int)) fun r => some (r.1, ())
def layout_Lease_sig : Sig := cloSig
noncomputable def layout_Lease_te (k : Nat) : TE := ⟨cloSig, fun s => layout_Lease k s.1⟩
theorem layout_Lease_ok (k : Nat) : CallOk Tryz.prog 29 (layout_Lease_te k) :=
  clo_ok (fR := 62) (fC := 86) (A := 5) (B := 6) (X := 6) (Y := 5) Tryz.func29 rfl (by kernel_rfl) (by kernel_rfl) (by kernel_rfl) (layout_region_clo 5 6) (layout_region_1_ok k) (fun c q h => by
    obtain ⟨⟨a, x, y, u⟩, h1, h2⟩ := Option.bind_eq_some_iff.1 h
    cases h2
    exact ⟨x, y, h1⟩)

/-! #### bodega/word.Key -/
noncomputable def word_Key (k : Nat) (number_0 : Int) (t_1 : Bool) : Option (Int × Int × Unit) :=
  Option.bind (word_within k number_0 (0:Int) (15:Int)) fun r1 =>
  bif (!r1.1) then
    some ((0:Int), (2:Int), ())
  else
    bif t_1 then
      some ((IntKind.u64.wrap ((IntKind.u64.wrap ((IntKind.u64.wrap number_0) * (2:Int))) + (1:Int))), (0:Int), ())
    else
      some ((IntKind.u64.wrap ((IntKind.u64.wrap number_0) * (2:Int))), (0:Int), ())
def word_Key_sig : Sig := ⟨[⟨false, (.int .i64), .s, .s⟩, ⟨false, .bool, .s, .s⟩], [((.int .u64), .s), ((.int .i64), .s)]⟩
noncomputable def word_Key_te (k : Nat) : TE := ⟨word_Key_sig, fun s => word_Key k s.1 s.2.1⟩
noncomputable def word_Key_C (k : Nat) : Ctx := cx [(58, word_within_te k)] [] []
noncomputable def word_Key_code : Code := Tryz.f63.body.getD .skip
theorem word_Key_tab (k : Nat) : TabOk Tryz.prog (word_Key_C k) := ⟨tab_cons (word_within_ok k) (tab_nil), lay_nil⟩
noncomputable def word_Key_ac (_k : Nat) : AC := (.sq .rg (.sq (.sq .rg (.cd (.sq .rg .nx) .nx)) (.sq .rg (.sq (.sq .rg (.cd .rg .nx)) (.sq .rg .nx)))))
theorem word_Key_fix (k : Nat) : acFix (word_Key_C k) k 17 (word_Key_ac k) word_Key_code = word_Key_ac k := by kernel_rfl
theorem word_Key_eq (k : Nat) (s : word_Key_sig.S) : fnEv (word_Key_C k) k word_Key_sig Tryz.f63 word_Key_code (word_Key_ac k) s = (word_Key_te k).F s := by kernel_rfl
theorem word_Key_ok (k : Nat) : CallOk Tryz.prog 63 (word_Key_te k) :=
  fn_ok (C := word_Key_C k) (code := word_Key_code) (g := word_Key_sig) (k := k) (Fn := (word_Key_te k).F) mixed (tysOk _ _ _) (eqsOk _ _ _) (word_Key_tab k) Tryz.func63 (by kernel_rfl) (by kernel_rfl) (of_decide_eq_true (by kernel_rfl)) (by kernel_rfl) (by kernel_rfl) (by kernel_rfl)
    (fun s q h => ⟨word_Key_ac k, ok_of_fix _ _ (word_Key_fix k), (word_Key_eq k s).trans h⟩)

/-! #### slices.Clone(()uint64,uint64) -/
noncomputable def slices_Clone (_k : Nat) (t_0 : (List Int)) : Option ((List Int) × Unit) :=
  agree (
    bif (decide (([] : (List Int)).length + t_0.length < 1073741824)) then
      some ((([] : (List Int)) ++ t_0), ())
    else none)
    (bif (t_0.isEmpty) then
      some (([] : (List Int)), ())
    else
      bif (decide (([] : (List Int)).length + t_0.length < 1073741824)) then
        some ((([] : (List Int)) ++ t_0), ())
      else none)
def slices_Clone_sig : Sig := ⟨[⟨false, (.list (.int .u64)), .s, .s⟩], [((.list (.int .u64)), (.o .s))]⟩
noncomputable def slices_Clone_te (k : Nat) : TE := ⟨slices_Clone_sig, fun s => slices_Clone k s.1⟩
noncomputable def slices_Clone_C (_k : Nat) : Ctx := cx [] [] []
noncomputable def slices_Clone_code : Code := Tryz.f48.body.getD .skip
theorem slices_Clone_tab (k : Nat) : TabOk Tryz.prog (slices_Clone_C k) := ⟨tab_nil, lay_nil⟩
noncomputable def slices_Clone_ac (_k : Nat) : AC := (.sq .rg (.sq (.sq .rg (.cd (.sq .rg .nx) .nx)) (.sq .rg .nx)))
theorem slices_Clone_fix (k : Nat) : acFix (slices_Clone_C k) k 8 (slices_Clone_ac k) slices_Clone_code = slices_Clone_ac k := by kernel_rfl
theorem slices_Clone_eq (k : Nat) (s : slices_Clone_sig.S) : fnEv (slices_Clone_C k) k slices_Clone_sig Tryz.f48 slices_Clone_code (slices_Clone_ac k) s = (slices_Clone_te k).F s := by kernel_rfl
theorem slices_Clone_ok (k : Nat) : CallOk Tryz.prog 48 (slices_Clone_te k) :=
  fn_ok (C := slices_Clone_C k) (code := slices_Clone_code) (g := slices_Clone_sig) (k := k) (Fn := (slices_Clone_te k).F) mixed (tysOk _ _ _) (eqsOk _ _ _) (slices_Clone_tab k) Tryz.func48 (by kernel_rfl) (by kernel_rfl) (of_decide_eq_true (by kernel_rfl)) (by kernel_rfl) (by kernel_rfl) (by kernel_rfl)
    (fun s q h => ⟨slices_Clone_ac k, ok_of_fix _ _ (slices_Clone_fix k), (slices_Clone_eq k s).trans h⟩)

/-! #### bodega/view.Address -/
noncomputable def view_Address (k : Nat) (v_0 : TView) (m_1 : TMember) (t_2 : Bool) (x_3 : TVerb) : Option (TVerb × Unit) :=
  let v1 := (x_3.1, m_1.1, x_3.2.2.1, x_3.2.2.2.1, x_3.2.2.2.2.1, x_3.2.2.2.2.2.1, x_3.2.2.2.2.2.2.1, x_3.2.2.2.2.2.2.2.1, m_1.2.1, x_3.2.2.2.2.2.2.2.2.2)
  Option.bind (word_Key k v_0.1 t_2) fun r2 =>
  let v3 := (v1.1, v1.2.1, v1.2.2.1, v1.2.2.2.1, v1.2.2.2.2.1, v1.2.2.2.2.2.1, v1.2.2.2.2.2.2.1, r2.1, v1.2.2.2.2.2.2.2.2)
  Option.bind (slices_Clone k v3.2.2.2.2.2.2.1) fun r4 =>
  some ((v3.1, v3.2.1, v3.2.2.1, v3.2.2.2.1, v3.2.2.2.2.1, v3.2.2.2.2.2.1, r4.1, v3.2.2.2.2.2.2.2), ())
def view_Address_sig : Sig := ⟨[⟨false, y3, .s, .s⟩, ⟨false, y9, .s, .s⟩, ⟨false, .bool, .s, .s⟩, ⟨false, y2, .s, .s⟩], [(y2, (.p .s (.p .s (.p .s (.p .s (.p .s q2))))))]⟩
noncomputable def view_Address_te (k : Nat) : TE := ⟨view_Address_sig, fun s => view_Address k s.1 s.2.1 s.2.2.1 s.2.2.2.1⟩
noncomputable def view_Address_C (k : Nat) : Ctx := cx [(48, slices_Clone_te k), (63, word_Key_te k)] [] []
noncomputable def view_Address_code : Code := Tryz.f30.body.getD .skip
theorem view_Address_tab (k : Nat) : TabOk Tryz.prog (view_Address_C k) := ⟨tab_cons (slices_Clone_ok k) (tab_cons (word_Key_ok k) (tab_nil)), lay_nil⟩
noncomputable def view_Address_ac (_k : Nat) : AC := (.sq .rg (.sq .rg (.sq .rg (.sq .rg (.sq .rg .nx)))))
theorem view_Address_fix (k : Nat) : acFix (view_Address_C k) k 28 (view_Address_ac k) view_Address_code = view_Address_ac k := by kernel_rfl
theorem view_Address_eq (k : Nat) (s : view_Address_sig.S) : fnEv (view_Address_C k) k view_Address_sig Tryz.f30 view_Address_code (view_Address_ac k) s = (view_Address_te k).F s := by kernel_rfl
theorem view_Address_ok (k : Nat) : CallOk Tryz.prog 30 (view_Address_te k) :=
  fn_ok (C := view_Address_C k) (code := view_Address_code) (g := view_Address_sig) (k := k) (Fn := (view_Address_te k).F) mixed (tysOk _ _ _) (eqsOk _ _ _) (view_Address_tab k) Tryz.func30 (by kernel_rfl) (by kernel_rfl) (of_decide_eq_true (by kernel_rfl)) (by kernel_rfl) (by kernel_rfl) (by kernel_rfl)
    (fun s q h => ⟨view_Address_ac k, ok_of_fix _ _ (view_Address_fix k), (view_Address_eq k s).trans h⟩)

/-! #### bodega/talk.New -/
noncomputable def talk_New (_k : Nat) (got_0 : (List (List TClocksOutcome))) : Option ((Option TTalk) × Unit) :=
  some ((some (got_0, ([] : (List TVerb)), false, ())), ())
def talk_New_sig : Sig := ⟨[⟨false, (.list (.list y4)), .s, .s⟩], [((.ptr y15), (.o q2))]⟩
noncomputable def talk_New_te (k : Nat) : TE := ⟨talk_New_sig, fun s => talk_New k s.1⟩
noncomputable def talk_New_C (_k : Nat) : Ctx := cx [] [] []
noncomputable def talk_New_code : Code := Tryz.f64.body.getD .skip
theorem talk_New_tab (k : Nat) : TabOk Tryz.prog (talk_New_C k) := ⟨tab_nil, lay_nil⟩
noncomputable def talk_New_ac (_k : Nat) : AC := (.sq .rg (.sq .rg .nx))
theorem talk_New_fix (k : Nat) : acFix (talk_New_C k) k 6 (talk_New_ac k) talk_New_code = talk_New_ac k := by kernel_rfl
theorem talk_New_eq (k : Nat) (s : talk_New_sig.S) : fnEv (talk_New_C k) k talk_New_sig Tryz.f64 talk_New_code (talk_New_ac k) s = (talk_New_te k).F s := by kernel_rfl
theorem talk_New_ok (k : Nat) : CallOk Tryz.prog 64 (talk_New_te k) :=
  fn_ok (C := talk_New_C k) (code := talk_New_code) (g := talk_New_sig) (k := k) (Fn := (talk_New_te k).F) mixed (tysOk _ _ _) (eqsOk _ _ _) (talk_New_tab k) Tryz.func64 (by kernel_rfl) (by kernel_rfl) (of_decide_eq_true (by kernel_rfl)) (by kernel_rfl) (by kernel_rfl) (by kernel_rfl)
    (fun s q h => ⟨talk_New_ac k, ok_of_fix _ _ (talk_New_fix k), (talk_New_eq k s).trans h⟩)

/-! #### bodega/verb.Returns -/
noncomputable def verb_Returns (_k : Nat) (v_0 : TVerb) : Option (Int × Unit) :=
  bif (decide (v_0.1 = (1:Int))) then
    some (v_0.2.2.2.1, ())
  else
    bif (decide (v_0.1 = (3:Int))) then
      bif (decide (v_0.1 = (3:Int))) then
        some ((1:Int), ())
      else
        some ((0:Int), ())
    else
      bif (decide (v_0.1 = (4:Int))) then
        some ((1:Int), ())
      else
        some ((0:Int), ())
def verb_Returns_sig : Sig := ⟨[⟨false, y2, .s, .s⟩], [((.int .i64), .s)]⟩
noncomputable def verb_Returns_te (k : Nat) : TE := ⟨verb_Returns_sig, fun s => verb_Returns k s.1⟩
noncomputable def verb_Returns_C (_k : Nat) : Ctx := cx [] [] []
noncomputable def verb_Returns_code : Code := Tryz.f122.body.getD .skip
theorem verb_Returns_tab (k : Nat) : TabOk Tryz.prog (verb_Returns_C k) := ⟨tab_nil, lay_nil⟩
noncomputable def verb_Returns_ac (_k : Nat) : AC := (.sq .rg (.sq (.sq .rg (.bk (.sq .rg (.cd (.sq .rg .nx) (.sq (.sq .rg (.cd .nx .rg)) (.cd (.sq .rg .nx) .nx)))))) (.sq .rg .nx)))
theorem verb_Returns_fix (k : Nat) : acFix (verb_Returns_C k) k 12 (verb_Returns_ac k) verb_Returns_code = verb_Returns_ac k := by kernel_rfl
theorem verb_Returns_eq (k : Nat) (s : verb_Returns_sig.S) : fnEv (verb_Returns_C k) k verb_Returns_sig Tryz.f122 verb_Returns_code (verb_Returns_ac k) s = (verb_Returns_te k).F s := by kernel_rfl
theorem verb_Returns_ok (k : Nat) : CallOk Tryz.prog 122 (verb_Returns_te k) :=
  fn_ok (C := verb_Returns_C k) (code := verb_Returns_code) (g := verb_Returns_sig) (k := k) (Fn := (verb_Returns_te k).F) mixed (tysOk _ _ _) (eqsOk _ _ _) (verb_Returns_tab k) Tryz.func122 (by kernel_rfl) (by kernel_rfl) (of_decide_eq_true (by kernel_rfl)) (by kernel_rfl) (by kernel_rfl) (by kernel_rfl)
    (fun s q h => ⟨verb_Returns_ac k, ok_of_fix _ _ (verb_Returns_fix k), (verb_Returns_eq k s).trans h⟩)

/-! #### bodega/verb.fits -/
noncomputable def verb_fits_J1 (_k : Nat) (d_3 : TClocksOutcome) (t_6 : Int) (t_15 : Bool) : Option ((TClocksOutcome × Bool × Unit)) :=
  bif t_15 then
    some (d_3, t_15, ())
  else
    some (d_3, (decide (t_6 = (5:Int))), ())
noncomputable def verb_fits (k : Nat) (v_0 : TVerb) (d_1 : TClocksOutcome) : Option (Bool × Unit) :=
  bif (decide (d_1.1 = (0:Int))) then
    Option.bind (verb_Returns k v_0) fun r1 =>
    some ((decide ((d_1.2.1.length : Int) = r1.1)), ())
  else
    Option.bind (verb_fits_J1 k d_1 d_1.1 (decide (d_1.1 = (4:Int)))) fun o2 =>
    bif o2.2.1 then
      some ((decide ((o2.1.2.1.length : Int) = (0:Int))), ())
    else
      some (false, ())
def verb_fits_sig : Sig := ⟨[⟨false, y2, .s, .s⟩, ⟨false, y4, .s, .s⟩], [(.bool, .s)]⟩
noncomputable def verb_fits_te (k : Nat) : TE := ⟨verb_fits_sig, fun s => verb_fits k s.1 s.2.1⟩
noncomputable def verb_fits_C (k : Nat) : Ctx := cx [(122, verb_Returns_te k)] [] []
noncomputable def verb_fits_code : Code := Tryz.f105.body.getD .skip
theorem verb_fits_tab (k : Nat) : TabOk Tryz.prog (verb_fits_C k) := ⟨tab_cons (verb_Returns_ok k) (tab_nil), lay_nil⟩
noncomputable def verb_fits_ac (k : Nat) : AC := (.sq .rg (.sq (.sq .rg (.bk (.sq .rg (.cd (.sq .rg .nx) (.sq (.sq .rg (.sm [(3, .bo y4 .s), (6, .va (.int .i64) .s), (15, .va .bool .s)] [(.normal, [(3, .bo y4 .s), (15, .va .bool .s)])] (fun s => verb_fits_J1 k s.1 s.2.1 s.2.2.1) (.cd .nx .rg))) (.cd (.sq .rg .nx) .nx)))))) (.sq .rg .nx)))
theorem verb_fits_fix (k : Nat) : acFix (verb_fits_C k) k 22 (verb_fits_ac k) verb_fits_code = verb_fits_ac k := by kernel_rfl
theorem verb_fits_eq (k : Nat) (s : verb_fits_sig.S) : fnEv (verb_fits_C k) k verb_fits_sig Tryz.f105 verb_fits_code (verb_fits_ac k) s = (verb_fits_te k).F s := by kernel_rfl
theorem verb_fits_ok (k : Nat) : CallOk Tryz.prog 105 (verb_fits_te k) :=
  fn_ok (C := verb_fits_C k) (code := verb_fits_code) (g := verb_fits_sig) (k := k) (Fn := (verb_fits_te k).F) mixed (tysOk _ _ _) (eqsOk _ _ _) (verb_fits_tab k) Tryz.func105 (by kernel_rfl) (by kernel_rfl) (of_decide_eq_true (by kernel_rfl)) (by kernel_rfl) (by kernel_rfl) (by kernel_rfl)
    (fun s q h => ⟨verb_fits_ac k, ok_of_fix _ _ (verb_fits_fix k), (verb_fits_eq k s).trans h⟩)

/-! #### bodega/verb.Fit -/
noncomputable def verb_Fit_L1 (k : Nat) (got_1 : (List TClocksOutcome)) (t_12 : (List TVerb)) (t_13 : Int) (t_14 : Int) : Option (((List TClocksOutcome) × (List TVerb) × Int × Int × Unit) ⊕ ((Bool × Unit) ⊕ (Unit))) :=
  bif (decide (t_14 < t_13)) then
    bif (decide ((0:Int) ≤ t_14) && decide (t_14 < (t_12.length : Int))) then
      bif (decide ((0:Int) ≤ t_14) && decide (t_14 < (got_1.length : Int))) then
        Option.bind (verb_fits k (t_12.getD (t_14.toNat) ((0:Int), (0:Int), (0:Int), (0:Int), (0:Int), (0:Int), ([] : (List Int)), (0:Int), (0:Int), ())) (got_1.getD (t_14.toNat) ((0:Int), ([] : (List Int)), ()))) fun r1 =>
        bif (!r1.1) then
          some (.inr (.inl (false, ())))
        else
          some (.inl (got_1, t_12, t_13, (IntKind.i64.wrap (t_14 + (1:Int))), ()))
      else none
    else none
  else
    some (.inr (.inr ()))
noncomputable def verb_Fit_L1_it (k : Nat) (got_1 : (List TClocksOutcome)) (t_12 : (List TVerb)) (t_13 : Int) (t_14 : Int) : Option ((Bool × Unit) ⊕ (Unit)) :=
  iterO (fun s : (List TClocksOutcome) × (List TVerb) × Int × Int × Unit => verb_Fit_L1 k s.1 s.2.1 s.2.2.1 s.2.2.2.1) k (got_1, t_12, t_13, t_14, ())
noncomputable def verb_Fit (k : Nat) (asked_0 : (List TVerb)) (got_1 : (List TClocksOutcome)) : Option (Bool × Unit) :=
  bif (!(decide ((asked_0.length : Int) = (got_1.length : Int)))) then
    some (false, ())
  else
    Option.bind (verb_Fit_L1_it k got_1 asked_0 (asked_0.length : Int) (0:Int)) fun o2 =>
    Sum.elim (fun o3 =>
      some (o3.1, ())) (fun _o4 =>
      some (true, ())) o2
def verb_Fit_sig : Sig := ⟨[⟨false, (.list y2), .s, .s⟩, ⟨false, (.list y4), .s, .s⟩], [(.bool, .s)]⟩
noncomputable def verb_Fit_te (k : Nat) : TE := ⟨verb_Fit_sig, fun s => verb_Fit k s.1 s.2.1⟩
noncomputable def verb_Fit_C (k : Nat) : Ctx := cx [(105, verb_fits_te k)] [] []
noncomputable def verb_Fit_code : Code := Tryz.f87.body.getD .skip
theorem verb_Fit_tab (k : Nat) : TabOk Tryz.prog (verb_Fit_C k) := ⟨tab_cons (verb_fits_ok k) (tab_nil), lay_nil⟩
noncomputable def verb_Fit_ac (k : Nat) : AC := (.sq .rg (.sq (.sq .rg (.cd (.sq .rg .nx) .nx)) (.sq (.sq .rg (.bk (.lp [(1, .va (.list y4) .s), (12, .va (.list y2) .s), (13, .va (.int .i64) .s), (14, .va (.int .i64) .s)] [(.ret, [(4, .va .bool .s)]), (.exit 0, [])] (fun s => verb_Fit_L1 k s.1 s.2.1 s.2.2.1 s.2.2.2.1) (.sq .rg (.sq (.cd .nx .nx) (.sq (.bk (.sq .rg (.sq .rg (.cd (.sq .rg .nx) .nx)))) .rg)))))) (.sq .rg .nx))))
theorem verb_Fit_fix (k : Nat) : acFix (verb_Fit_C k) k 27 (verb_Fit_ac k) verb_Fit_code = verb_Fit_ac k := by kernel_rfl
theorem verb_Fit_eq (k : Nat) (s : verb_Fit_sig.S) : fnEv (verb_Fit_C k) k verb_Fit_sig Tryz.f87 verb_Fit_code (verb_Fit_ac k) s = (verb_Fit_te k).F s := by kernel_rfl
theorem verb_Fit_ok (k : Nat) : CallOk Tryz.prog 87 (verb_Fit_te k) :=
  fn_ok (C := verb_Fit_C k) (code := verb_Fit_code) (g := verb_Fit_sig) (k := k) (Fn := (verb_Fit_te k).F) mixed (tysOk _ _ _) (eqsOk _ _ _) (verb_Fit_tab k) Tryz.func87 (by kernel_rfl) (by kernel_rfl) (of_decide_eq_true (by kernel_rfl)) (by kernel_rfl) (by kernel_rfl) (by kernel_rfl)
    (fun s q h => ⟨verb_Fit_ac k, ok_of_fix _ _ (verb_Fit_fix k), (verb_Fit_eq k s).trans h⟩)

end Go.Proofs.YtkgjdglkkoabmaaGreat.N

set_option maxRecDepth 1000000
namespace Go.Proofs.YtkgjdglkkoabmaaGreat.N
open Go.VL Go.Proofs

/-! #### (*bodega/talk.Talk).Batch -/
noncomputable def talk_Talk_Batch (k : Nat) (t_0 : TTalk) (ask_1 : (List TVerb)) : Option ((List TClocksOutcome) × Bool × TTalk × Unit) :=
  bif (decide ((ask_1.length : Int) = (0:Int))) then
    some (([] : (List TClocksOutcome)), true, t_0, ())
  else
    bif (decide ((t_0.1.length : Int) = (0:Int))) then
      some (([] : (List TClocksOutcome)), false, (t_0.1, ask_1, t_0.2.2), ())
    else
      bif (decide ((0:Int) ≤ (0:Int)) && decide ((0:Int) < (t_0.1.length : Int))) then
        Option.bind (verb_Fit k ask_1 (t_0.1.getD 0 ([] : (List TClocksOutcome)))) fun r1 =>
        bif (!r1.1) then
          some (([] : (List TClocksOutcome)), false, (t_0.1, t_0.2.1, true, t_0.2.2.2), ())
        else
          bif (decide ((0:Int) ≤ (0:Int)) && decide ((0:Int) < (t_0.1.length : Int))) then
            bif (decide ((0:Int) ≤ (1:Int)) && decide ((1:Int) ≤ (t_0.1.length : Int)) && decide ((t_0.1.length : Int) ≤ (t_0.1.length : Int))) then
              some ((t_0.1.getD 0 ([] : (List TClocksOutcome))), true, (((List.take ((t_0.1.length : Int).toNat) t_0.1).drop 1), t_0.2), ())
            else none
          else none
      else none
def talk_Talk_Batch_sig : Sig := ⟨[⟨true, y15, q2, .s⟩, ⟨false, (.list y2), .s, .s⟩], [((.list y4), .s), (.bool, .s)]⟩
noncomputable def talk_Talk_Batch_te (k : Nat) : TE := ⟨talk_Talk_Batch_sig, fun s => talk_Talk_Batch k s.1 s.2.1⟩
noncomputable def talk_Talk_Batch_C (k : Nat) : Ctx := cx [(87, verb_Fit_te k)] [] []
noncomputable def talk_Talk_Batch_code : Code := Tryz.f65.body.getD .skip
theorem talk_Talk_Batch_tab (k : Nat) : TabOk Tryz.prog (talk_Talk_Batch_C k) := ⟨tab_cons (verb_Fit_ok k) (tab_nil), lay_nil⟩
noncomputable def talk_Talk_Batch_ac (_k : Nat) : AC := (.sq .rg (.sq (.bk (.sq .rg (.cd (.sq .rg .nx) (.sq .rg (.cd (.sq .rg (.sq .rg .nx)) (.sq .rg (.cd (.sq .rg (.sq .rg .nx)) .nx))))))) (.sq .rg (.sq .rg .nx))))
theorem talk_Talk_Batch_fix (k : Nat) : acFix (talk_Talk_Batch_C k) k 49 (talk_Talk_Batch_ac k) talk_Talk_Batch_code = talk_Talk_Batch_ac k := by kernel_rfl
theorem talk_Talk_Batch_eq (k : Nat) (s : talk_Talk_Batch_sig.S) : fnEv (talk_Talk_Batch_C k) k talk_Talk_Batch_sig Tryz.f65 talk_Talk_Batch_code (talk_Talk_Batch_ac k) s = (talk_Talk_Batch_te k).F s := by kernel_rfl
theorem talk_Talk_Batch_ok (k : Nat) : CallOk Tryz.prog 65 (talk_Talk_Batch_te k) :=
  fn_ok (C := talk_Talk_Batch_C k) (code := talk_Talk_Batch_code) (g := talk_Talk_Batch_sig) (k := k) (Fn := (talk_Talk_Batch_te k).F) mixed (tysOk _ _ _) (eqsOk _ _ _) (talk_Talk_Batch_tab k) Tryz.func65 (by kernel_rfl) (by kernel_rfl) (of_decide_eq_true (by kernel_rfl)) (by kernel_rfl) (by kernel_rfl) (by kernel_rfl)
    (fun s q h => ⟨talk_Talk_Batch_ac k, ok_of_fix _ _ (talk_Talk_Batch_fix k), (talk_Talk_Batch_eq k s).trans h⟩)

/-! #### (*bodega/talk.Talk).Asking -/
noncomputable def talk_Talk_Asking (_k : Nat) (t_0 : TTalk) : Option ((List TVerb) × Bool × TTalk × Unit) :=
  some (t_0.2.1, (decide ((0:Int) < (t_0.2.1.length : Int))), t_0, ())
def talk_Talk_Asking_sig : Sig := ⟨[⟨true, y15, .s, .s⟩], [((.list y2), .s), (.bool, .s)]⟩
noncomputable def talk_Talk_Asking_te (k : Nat) : TE := ⟨talk_Talk_Asking_sig, fun s => talk_Talk_Asking k s.1⟩
noncomputable def talk_Talk_Asking_C (_k : Nat) : Ctx := cx [] [] []
noncomputable def talk_Talk_Asking_code : Code := Tryz.f66.body.getD .skip
theorem talk_Talk_Asking_tab (k : Nat) : TabOk Tryz.prog (talk_Talk_Asking_C k) := ⟨tab_nil, lay_nil⟩
noncomputable def talk_Talk_Asking_ac (_k : Nat) : AC := (.sq .rg (.sq .rg .nx))
theorem talk_Talk_Asking_fix (k : Nat) : acFix (talk_Talk_Asking_C k) k 14 (talk_Talk_Asking_ac k) talk_Talk_Asking_code = talk_Talk_Asking_ac k := by kernel_rfl
theorem talk_Talk_Asking_eq (k : Nat) (s : talk_Talk_Asking_sig.S) : fnEv (talk_Talk_Asking_C k) k talk_Talk_Asking_sig Tryz.f66 talk_Talk_Asking_code (talk_Talk_Asking_ac k) s = (talk_Talk_Asking_te k).F s := by kernel_rfl
theorem talk_Talk_Asking_ok (k : Nat) : CallOk Tryz.prog 66 (talk_Talk_Asking_te k) :=
  fn_ok (C := talk_Talk_Asking_C k) (code := talk_Talk_Asking_code) (g := talk_Talk_Asking_sig) (k := k) (Fn := (talk_Talk_Asking_te k).F) mixed (tysOk _ _ _) (eqsOk _ _ _) (talk_Talk_Asking_tab k) Tryz.func66 (by kernel_rfl) (by kernel_rfl) (of_decide_eq_true (by kernel_rfl)) (by kernel_rfl) (by kernel_rfl) (by kernel_rfl)
    (fun s q h => ⟨talk_Talk_Asking_ac k, ok_of_fix _ _ (talk_Talk_Asking_fix k), (talk_Talk_Asking_eq k s).trans h⟩)

/-! #### (*bodega/talk.Talk).Mismatch -/
noncomputable def talk_Talk_Mismatch (_k : Nat) (t_0 : TTalk) : Option (Bool × TTalk × Unit) :=
  some ((bif t_0.2.2.1 then true else (decide ((0:Int) < (t_0.1.length : Int)))), t_0, ())
def talk_Talk_Mismatch_sig : Sig := ⟨[⟨true, y15, .s, .s⟩], [(.bool, .s)]⟩
noncomputable def talk_Talk_Mismatch_te (k : Nat) : TE := ⟨talk_Talk_Mismatch_sig, fun s => talk_Talk_Mismatch k s.1⟩
noncomputable def talk_Talk_Mismatch_C (_k : Nat) : Ctx := cx [] [] []
noncomputable def talk_Talk_Mismatch_code : Code := Tryz.f67.body.getD .skip
theorem talk_Talk_Mismatch_tab (k : Nat) : TabOk Tryz.prog (talk_Talk_Mismatch_C k) := ⟨tab_nil, lay_nil⟩
noncomputable def talk_Talk_Mismatch_ac (_k : Nat) : AC := (.sq .rg (.sq .rg .nx))
theorem talk_Talk_Mismatch_fix (k : Nat) : acFix (talk_Talk_Mismatch_C k) k 15 (talk_Talk_Mismatch_ac k) talk_Talk_Mismatch_code = talk_Talk_Mismatch_ac k := by kernel_rfl
theorem talk_Talk_Mismatch_eq (k : Nat) (s : talk_Talk_Mismatch_sig.S) : fnEv (talk_Talk_Mismatch_C k) k talk_Talk_Mismatch_sig Tryz.f67 talk_Talk_Mismatch_code (talk_Talk_Mismatch_ac k) s = (talk_Talk_Mismatch_te k).F s := by kernel_rfl
theorem talk_Talk_Mismatch_ok (k : Nat) : CallOk Tryz.prog 67 (talk_Talk_Mismatch_te k) :=
  fn_ok (C := talk_Talk_Mismatch_C k) (code := talk_Talk_Mismatch_code) (g := talk_Talk_Mismatch_sig) (k := k) (Fn := (talk_Talk_Mismatch_te k).F) mixed (tysOk _ _ _) (eqsOk _ _ _) (talk_Talk_Mismatch_tab k) Tryz.func67 (by kernel_rfl) (by kernel_rfl) (of_decide_eq_true (by kernel_rfl)) (by kernel_rfl) (by kernel_rfl) (by kernel_rfl)
    (fun s q h => ⟨talk_Talk_Mismatch_ac k, ok_of_fix _ _ (talk_Talk_Mismatch_fix k), (talk_Talk_Mismatch_eq k s).trans h⟩)

/-! #### bodega/verb.First -/
noncomputable def verb_First_L1 (_k : Nat) (t_5 : (List TClocksOutcome)) (t_6 : Int) (t_7 : Int) : Option (((List TClocksOutcome) × Int × Int × Unit) ⊕ ((Int × Unit) ⊕ (Unit))) :=
  bif (decide (t_7 < t_6)) then
    bif (decide ((0:Int) ≤ t_7) && decide (t_7 < (t_5.length : Int))) then
      bif (!(decide ((t_5.getD (t_7.toNat) ((0:Int), ([] : (List Int)), ())).1 = (0:Int)))) then
        some (.inr (.inl ((t_5.getD (t_7.toNat) ((0:Int), ([] : (List Int)), ())).1, ())))
      else
        some (.inl (t_5, t_6, (IntKind.i64.wrap (t_7 + (1:Int))), ()))
    else none
  else
    some (.inr (.inr ()))
noncomputable def verb_First_L1_it (k : Nat) (t_5 : (List TClocksOutcome)) (t_6 : Int) (t_7 : Int) : Option ((Int × Unit) ⊕ (Unit)) :=
  iterO (fun s : (List TClocksOutcome) × Int × Int × Unit => verb_First_L1 k s.1 s.2.1 s.2.2.1) k (t_5, t_6, t_7, ())
noncomputable def verb_First (k : Nat) (got_0 : (List TClocksOutcome)) : Option (Int × Unit) :=
  Option.bind (verb_First_L1_it k got_0 (got_0.length : Int) (0:Int)) fun o1 =>
  Sum.elim (fun o2 =>
    some (o2.1, ())) (fun _o3 =>
    some ((0:Int), ())) o1
def verb_First_sig : Sig := ⟨[⟨false, (.list y4), .s, .s⟩], [((.int .i64), .s)]⟩
noncomputable def verb_First_te (k : Nat) : TE := ⟨verb_First_sig, fun s => verb_First k s.1⟩
noncomputable def verb_First_C (_k : Nat) : Ctx := cx [] [] []
noncomputable def verb_First_code : Code := Tryz.f68.body.getD .skip
theorem verb_First_tab (k : Nat) : TabOk Tryz.prog (verb_First_C k) := ⟨tab_nil, lay_nil⟩
noncomputable def verb_First_ac (k : Nat) : AC := (.sq .rg (.sq (.sq .rg (.bk (.lp [(5, .va (.list y4) .s), (6, .va (.int .i64) .s), (7, .va (.int .i64) .s)] [(.ret, [(2, .va (.int .i64) .s)]), (.exit 0, [])] (fun s => verb_First_L1 k s.1 s.2.1 s.2.2.1) (.sq .rg (.sq (.cd .nx .nx) (.sq (.bk (.sq .rg (.sq .rg (.cd (.sq .rg .nx) .nx)))) .rg)))))) (.sq .rg .nx)))
theorem verb_First_fix (k : Nat) : acFix (verb_First_C k) k 17 (verb_First_ac k) verb_First_code = verb_First_ac k := by kernel_rfl
theorem verb_First_eq (k : Nat) (s : verb_First_sig.S) : fnEv (verb_First_C k) k verb_First_sig Tryz.f68 verb_First_code (verb_First_ac k) s = (verb_First_te k).F s := by kernel_rfl
theorem verb_First_ok (k : Nat) : CallOk Tryz.prog 68 (verb_First_te k) :=
  fn_ok (C := verb_First_C k) (code := verb_First_code) (g := verb_First_sig) (k := k) (Fn := (verb_First_te k).F) mixed (tysOk _ _ _) (eqsOk _ _ _) (verb_First_tab k) Tryz.func68 (by kernel_rfl) (by kernel_rfl) (of_decide_eq_true (by kernel_rfl)) (by kernel_rfl) (by kernel_rfl) (by kernel_rfl)
    (fun s q h => ⟨verb_First_ac k, ok_of_fix _ _ (verb_First_fix k), (verb_First_eq k s).trans h⟩)

/-! #### bodega/lease.talkOnce -/
noncomputable def lease_talkOnce (k : Nat) (batch_0 : (List TVerb)) (got_1 : (List (List TClocksOutcome))) : Option ((List TVerb) × (List TClocksOutcome) × Int × Bool × Unit) :=
  Option.bind (talk_New k got_1) fun r1 =>
  bif (r1.1.isSome) then
    Option.bind (talk_Talk_Batch k (r1.1.getD (([] : (List (List TClocksOutcome))), ([] : (List TVerb)), false, ())) batch_0) fun r2 =>
    Option.bind (talk_Talk_Asking k r2.2.2.1) fun r3 =>
    bif r3.2.1 then
      some (r3.1, ([] : (List TClocksOutcome)), (0:Int), false, ())
    else
      Option.bind (bif (!(!r2.2.1)) then talk_Talk_Mismatch k r3.2.2.1 else some (false, (([] : (List (List TClocksOutcome))), ([] : (List TVerb)), false, ()), ())) fun r4 =>
      bif (bif (!r2.2.1) then true else r4.1) then
        some (([] : (List TVerb)), ([] : (List TClocksOutcome)), (6:Int), true, ())
      else
        Option.bind (verb_First k r2.1) fun r5 =>
        some (([] : (List TVerb)), r2.1, r5.1, true, ())
  else none
def lease_talkOnce_sig : Sig := ⟨[⟨false, (.list y2), .s, .s⟩, ⟨false, (.list (.list y4)), .s, .s⟩], [((.list y2), .s), ((.list y4), .s), ((.int .i64), .s), (.bool, .s)]⟩
noncomputable def lease_talkOnce_te (k : Nat) : TE := ⟨lease_talkOnce_sig, fun s => lease_talkOnce k s.1 s.2.1⟩
noncomputable def lease_talkOnce_C (k : Nat) : Ctx := cx [(64, talk_New_te k), (65, talk_Talk_Batch_te k), (66, talk_Talk_Asking_te k), (67, talk_Talk_Mismatch_te k), (68, verb_First_te k)] [] []
noncomputable def lease_talkOnce_code : Code := Tryz.f31.body.getD .skip
theorem lease_talkOnce_tab (k : Nat) : TabOk Tryz.prog (lease_talkOnce_C k) := ⟨tab_cons (talk_New_ok k) (tab_cons (talk_Talk_Batch_ok k) (tab_cons (talk_Talk_Asking_ok k) (tab_cons (talk_Talk_Mismatch_ok k) (tab_cons (verb_First_ok k) (tab_nil))))), lay_nil⟩
noncomputable def lease_talkOnce_ac (_k : Nat) : AC := (.sq .rg (.sq .rg (.sq .rg (.sq (.sq .rg (.sq .rg (.cd (.sq .rg .nx) .nx))) (.sq (.sq .rg (.cd (.sq .rg .nx) .nx)) (.sq .rg .nx))))))
theorem lease_talkOnce_fix (k : Nat) : acFix (lease_talkOnce_C k) k 36 (lease_talkOnce_ac k) lease_talkOnce_code = lease_talkOnce_ac k := by kernel_rfl
theorem lease_talkOnce_eq (k : Nat) (s : lease_talkOnce_sig.S) : fnEv (lease_talkOnce_C k) k lease_talkOnce_sig Tryz.f31 lease_talkOnce_code (lease_talkOnce_ac k) s = (lease_talkOnce_te k).F s := by kernel_rfl
theorem lease_talkOnce_ok (k : Nat) : CallOk Tryz.prog 31 (lease_talkOnce_te k) :=
  fn_ok (C := lease_talkOnce_C k) (code := lease_talkOnce_code) (g := lease_talkOnce_sig) (k := k) (Fn := (lease_talkOnce_te k).F) mixed (tysOk _ _ _) (eqsOk _ _ _) (lease_talkOnce_tab k) Tryz.func31 (by kernel_rfl) (by kernel_rfl) (of_decide_eq_true (by kernel_rfl)) (by kernel_rfl) (by kernel_rfl) (by kernel_rfl)
    (fun s q h => ⟨lease_talkOnce_ac k, ok_of_fix _ _ (lease_talkOnce_fix k), (lease_talkOnce_eq k s).trans h⟩)

/-! #### bodega/lease.Renew -/
noncomputable def lease_Renew_J1 (k : Nat) (got_1 : (List (List TClocksOutcome))) (j_2 : TRenewJob) (out_5 : (Int × Unit)) (w_7 : Int) (e_8 : Int) (t_27 : Bool) : Option (((List (List TClocksOutcome)) × TRenewJob × (Int × Unit) × Int × Int × Unit)) :=
  bif t_27 then
    Option.bind (view_Valid k j_2.2.2.2.1 (5:Int)) fun r3 =>
    some (got_1, j_2, out_5, w_7, r3.1, ())
  else
    some (got_1, j_2, out_5, w_7, e_8, ())
noncomputable def lease_Renew_L1 (k : Nat) (got_1 : (List (List TClocksOutcome))) (j_2 : TRenewJob) (out_5 : (Int × Unit)) (w_7 : Int) (batch_9 : (List TVerb)) (t_37 : (List TMember)) (t_38 : Int) (t_39 : Int) : Option (((List (List TClocksOutcome)) × TRenewJob × (Int × Unit) × Int × (List TVerb) × (List TMember) × Int × Int × Unit) ⊕ (((List (List TClocksOutcome)) × (Int × Unit) × (List TVerb) × Unit))) :=
  bif (decide (t_39 < t_38)) then
    bif (decide ((0:Int) ≤ t_39) && decide (t_39 < (t_37.length : Int))) then
      Option.bind (layout_Lease k j_2.1) fun r5 =>
      Option.bind (view_Address k j_2.2.2.2.1 (t_37.getD (t_39.toNat) ((0:Int), (0:Int), false, ())) true ((2:Int), (0:Int), r5.1, (0:Int), (0:Int), (0:Int), [w_7], (0:Int), (0:Int), ())) fun r6 =>
      bif (decide (batch_9.length + [r6.1].length < 1073741824)) then
        some (.inl (got_1, j_2, out_5, w_7, (batch_9 ++ [r6.1]), t_37, t_38, (IntKind.i64.wrap (t_39 + (1:Int))), ()))
      else none
    else none
  else
    some (.inr (got_1, out_5, batch_9, ()))
noncomputable def lease_Renew_L1_it (k : Nat) (got_1 : (List (List TClocksOutcome))) (j_2 : TRenewJob) (out_5 : (Int × Unit)) (w_7 : Int) (batch_9 : (List TVerb)) (t_37 : (List TMember)) (t_38 : Int) (t_39 : Int) : Option (((List (List TClocksOutcome)) × (Int × Unit) × (List TVerb) × Unit)) :=
  iterO (fun s : (List (List TClocksOutcome)) × TRenewJob × (Int × Unit) × Int × (List TVerb) × (List TMember) × Int × Int × Unit => lease_Renew_L1 k s.1 s.2.1 s.2.2.1 s.2.2.2.1 s.2.2.2.2.1 s.2.2.2.2.2.1 s.2.2.2.2.2.2.1 s.2.2.2.2.2.2.2.1) k (got_1, j_2, out_5, w_7, batch_9, t_37, t_38, t_39, ())
noncomputable def lease_Renew (k : Nat) (j_0 : TRenewJob) (got_1 : (List (List TClocksOutcome))) : Option ((List TVerb) × (Int × Unit) × Bool × Unit) :=
  Option.bind (lease_isClient k j_0.1) fun r1 =>
  bif (!r1.1) then
    some (([] : (List TVerb)), ((1:Int), ()), true, ())
  else
    Option.bind (word_Lease k j_0.2.1 j_0.2.2.1) fun r2 =>
    Option.bind (lease_Renew_J1 k got_1 j_0 ((0:Int), ()) r2.1 r2.2.1 (decide (r2.2.1 = (0:Int)))) fun o4 =>
    bif (!(decide (o4.2.2.2.2.1 = (0:Int)))) then
      some (([] : (List TVerb)), (o4.2.2.2.2.1, ()), true, ())
    else
      Option.bind (lease_Renew_L1_it k o4.1 o4.2.1 o4.2.2.1 o4.2.2.2.1 ([] : (List TVerb)) o4.2.1.2.2.2.1.2.1 (o4.2.1.2.2.2.1.2.1.length : Int) (0:Int)) fun o7 =>
      Option.bind (lease_talkOnce k o7.2.2.1 o7.1) fun r8 =>
      some (r8.1, (r8.2.2.1, ()), r8.2.2.2.1, ())
def lease_Renew_sig : Sig := ⟨[⟨false, (.pair (.int .i64) y13), .s, .s⟩, ⟨false, (.list (.list y4)), .s, .s⟩], [((.list y2), .s), ((.pair (.int .i64) .unit), .s), (.bool, .s)]⟩
noncomputable def lease_Renew_te (k : Nat) : TE := ⟨lease_Renew_sig, fun s => lease_Renew k s.1 s.2.1⟩
noncomputable def lease_Renew_C (k : Nat) : Ctx := cx [(26, lease_isClient_te k), (27, word_Lease_te k), (28, view_Valid_te k), (29, layout_Lease_te k), (30, view_Address_te k), (31, lease_talkOnce_te k)] [] []
noncomputable def lease_Renew_code : Code := Tryz.f9.body.getD .skip
theorem lease_Renew_tab (k : Nat) : TabOk Tryz.prog (lease_Renew_C k) := ⟨tab_cons (lease_isClient_ok k) (tab_cons (word_Lease_ok k) (tab_cons (view_Valid_ok k) (tab_cons (layout_Lease_ok k) (tab_cons (view_Address_ok k) (tab_cons (lease_talkOnce_ok k) (tab_nil)))))), lay_nil⟩
noncomputable def lease_Renew_ac (k : Nat) : AC := (.sq .rg (.sq (.sq .rg (.cd (.sq .rg .nx) .nx)) (.sq .rg (.sq (.sq .rg (.sm [(1, .va (.list (.list y4)) .s), (2, .bo (.pair (.int .i64) y13) .s), (5, .bo (.pair (.int .i64) .unit) .s), (7, .va (.int .u64) .s), (8, .va (.int .i64) .s), (27, .va .bool .s)] [(.normal, [(1, .va (.list (.list y4)) .s), (2, .bo (.pair (.int .i64) y13) .s), (5, .bo (.pair (.int .i64) .unit) .s), (7, .va (.int .u64) .s), (8, .va (.int .i64) .s)])] (fun s => lease_Renew_J1 k s.1 s.2.1 s.2.2.1 s.2.2.2.1 s.2.2.2.2.1 s.2.2.2.2.2.1) (.cd .rg .nx))) (.sq (.sq .rg (.cd (.sq .rg .nx) .nx)) (.sq .rg (.sq (.sq .rg (.bk (.lp [(1, .va (.list (.list y4)) .s), (2, .bo (.pair (.int .i64) y13) .s), (5, .bo (.pair (.int .i64) .unit) .s), (7, .va (.int .u64) .s), (9, .va (.list y2) (.o .s)), (37, .va (.list y9) .s), (38, .va (.int .i64) .s), (39, .va (.int .i64) .s)] [(.exit 0, [(1, .va (.list (.list y4)) .s), (5, .bo (.pair (.int .i64) .unit) .s), (9, .va (.list y2) (.o .s))])] (fun s => lease_Renew_L1 k s.1 s.2.1 s.2.2.1 s.2.2.2.1 s.2.2.2.2.1 s.2.2.2.2.2.1 s.2.2.2.2.2.2.1 s.2.2.2.2.2.2.2.1) (.sq .rg (.sq (.cd .nx .nx) (.sq (.bk (.sq .rg (.sq .rg .rg))) .rg)))))) (.sq .rg (.sq .rg .nx)))))))))
theorem lease_Renew_fix (k : Nat) : acFix (lease_Renew_C k) k 70 (lease_Renew_ac k) lease_Renew_code = lease_Renew_ac k := by kernel_rfl
theorem lease_Renew_eq (k : Nat) (s : lease_Renew_sig.S) : fnEv (lease_Renew_C k) k lease_Renew_sig Tryz.f9 lease_Renew_code (lease_Renew_ac k) s = (lease_Renew_te k).F s := by kernel_rfl
theorem lease_Renew_ok (k : Nat) : CallOk Tryz.prog 9 (lease_Renew_te k) :=
  fn_ok (C := lease_Renew_C k) (code := lease_Renew_code) (g := lease_Renew_sig) (k := k) (Fn := (lease_Renew_te k).F) mixed (tysOk _ _ _) (eqsOk _ _ _) (lease_Renew_tab k) Tryz.func9 (by kernel_rfl) (by kernel_rfl) (of_decide_eq_true (by kernel_rfl)) (by kernel_rfl) (by kernel_rfl) (by kernel_rfl)
    (fun s q h => ⟨lease_Renew_ac k, ok_of_fix _ _ (lease_Renew_fix k), (lease_Renew_eq k s).trans h⟩)

/-! #### bodega/bodegaref1.Client -/
noncomputable def bodegaref1_Client (_k : Nat) (c_0 : Int) : Option (Bool × Unit) :=
  some ((bif (decide ((0:Int) ≤ c_0)) then (decide (c_0 < (6:Int))) else false), ())
def bodegaref1_Client_sig : Sig := ⟨[⟨false, (.int .i64), .s, .s⟩], [(.bool, .s)]⟩
noncomputable def bodegaref1_Client_te (k : Nat) : TE := ⟨bodegaref1_Client_sig, fun s => bodegaref1_Client k s.1⟩
noncomputable def bodegaref1_Client_C (_k : Nat) : Ctx := cx [] [] []
noncomputable def bodegaref1_Client_code : Code := Tryz.f32.body.getD .skip
theorem bodegaref1_Client_tab (k : Nat) : TabOk Tryz.prog (bodegaref1_Client_C k) := ⟨tab_nil, lay_nil⟩
noncomputable def bodegaref1_Client_ac (_k : Nat) : AC := (.sq .rg (.sq .rg .nx))
theorem bodegaref1_Client_fix (k : Nat) : acFix (bodegaref1_Client_C k) k 9 (bodegaref1_Client_ac k) bodegaref1_Client_code = bodegaref1_Client_ac k := by kernel_rfl
theorem bodegaref1_Client_eq (k : Nat) (s : bodegaref1_Client_sig.S) : fnEv (bodegaref1_Client_C k) k bodegaref1_Client_sig Tryz.f32 bodegaref1_Client_code (bodegaref1_Client_ac k) s = (bodegaref1_Client_te k).F s := by kernel_rfl
theorem bodegaref1_Client_ok (k : Nat) : CallOk Tryz.prog 32 (bodegaref1_Client_te k) :=
  fn_ok (C := bodegaref1_Client_C k) (code := bodegaref1_Client_code) (g := bodegaref1_Client_sig) (k := k) (Fn := (bodegaref1_Client_te k).F) mixed (tysOk _ _ _) (eqsOk _ _ _) (bodegaref1_Client_tab k) Tryz.func32 (by kernel_rfl) (by kernel_rfl) (of_decide_eq_true (by kernel_rfl)) (by kernel_rfl) (by kernel_rfl) (by kernel_rfl)
    (fun s q h => ⟨bodegaref1_Client_ac k, ok_of_fix _ _ (bodegaref1_Client_fix k), (bodegaref1_Client_eq k s).trans h⟩)

/-! #### bodega/bodegaref1.Inc -/
noncomputable def bodegaref1_Inc (_k : Nat) (i_0 : Int) : Option (Bool × Unit) :=
  some ((bif (bif (decide ((1:Int) ≤ i_0)) then (decide (i_0 ≤ (59:Int))) else false) then (decide ((Int.tmod i_0 (2:Int)) = (1:Int))) else false), ())
def bodegaref1_Inc_sig : Sig := ⟨[⟨false, (.int .i64), .s, .s⟩], [(.bool, .s)]⟩
noncomputable def bodegaref1_Inc_te (k : Nat) : TE := ⟨bodegaref1_Inc_sig, fun s => bodegaref1_Inc k s.1⟩
noncomputable def bodegaref1_Inc_C (_k : Nat) : Ctx := cx [] [] []
noncomputable def bodegaref1_Inc_code : Code := Tryz.f69.body.getD .skip
theorem bodegaref1_Inc_tab (k : Nat) : TabOk Tryz.prog (bodegaref1_Inc_C k) := ⟨tab_nil, lay_nil⟩
noncomputable def bodegaref1_Inc_ac (_k : Nat) : AC := (.sq .rg (.sq .rg .nx))
theorem bodegaref1_Inc_fix (k : Nat) : acFix (bodegaref1_Inc_C k) k 14 (bodegaref1_Inc_ac k) bodegaref1_Inc_code = bodegaref1_Inc_ac k := by kernel_rfl
theorem bodegaref1_Inc_eq (k : Nat) (s : bodegaref1_Inc_sig.S) : fnEv (bodegaref1_Inc_C k) k bodegaref1_Inc_sig Tryz.f69 bodegaref1_Inc_code (bodegaref1_Inc_ac k) s = (bodegaref1_Inc_te k).F s := by kernel_rfl
theorem bodegaref1_Inc_ok (k : Nat) : CallOk Tryz.prog 69 (bodegaref1_Inc_te k) :=
  fn_ok (C := bodegaref1_Inc_C k) (code := bodegaref1_Inc_code) (g := bodegaref1_Inc_sig) (k := k) (Fn := (bodegaref1_Inc_te k).F) mixed (tysOk _ _ _) (eqsOk _ _ _) (bodegaref1_Inc_tab k) Tryz.func69 (by kernel_rfl) (by kernel_rfl) (of_decide_eq_true (by kernel_rfl)) (by kernel_rfl) (by kernel_rfl) (by kernel_rfl)
    (fun s q h => ⟨bodegaref1_Inc_ac k, ok_of_fix _ _ (bodegaref1_Inc_fix k), (bodegaref1_Inc_eq k s).trans h⟩)

/-! #### bodega/bodegaref1.Lease -/
noncomputable def bodegaref1_Lease (k : Nat) (inc_0 : Int) (until_1 : Int) : Option (Int × Int × Unit) :=
  Option.bind (bodegaref1_Inc k inc_0) fun r1 =>
  bif (!r1.1) then
    some ((0:Int), (2:Int), ())
  else
    bif (bif (decide (until_1 < (0:Int))) then true else (decide ((4294967295:Int) < until_1))) then
      some ((0:Int), (1:Int), ())
    else
      some ((ior .u64 (ishl .u64 (IntKind.u64.wrap inc_0) (32:Int)) (IntKind.u64.wrap until_1)), (0:Int), ())
def bodegaref1_Lease_sig : Sig := ⟨[⟨false, (.int .i64), .s, .s⟩, ⟨false, (.int .i64), .s, .s⟩], [((.int .u64), .s), ((.int .i64), .s)]⟩
noncomputable def bodegaref1_Lease_te (k : Nat) : TE := ⟨bodegaref1_Lease_sig, fun s => bodegaref1_Lease k s.1 s.2.1⟩
noncomputable def bodegaref1_Lease_C (k : Nat) : Ctx := cx [(69, bodegaref1_Inc_te k)] [] []
noncomputable def bodegaref1_Lease_code : Code := Tryz.f33.body.getD .skip
theorem bodegaref1_Lease_tab (k : Nat) : TabOk Tryz.prog (bodegaref1_Lease_C k) := ⟨tab_cons (bodegaref1_Inc_ok k) (tab_nil), lay_nil⟩
noncomputable def bodegaref1_Lease_ac (_k : Nat) : AC := (.sq .rg (.sq (.sq .rg (.cd (.sq .rg .nx) .nx)) (.sq (.sq .rg (.cd (.sq .rg .nx) .nx)) (.sq .rg .nx))))
theorem bodegaref1_Lease_fix (k : Nat) : acFix (bodegaref1_Lease_C k) k 21 (bodegaref1_Lease_ac k) bodegaref1_Lease_code = bodegaref1_Lease_ac k := by kernel_rfl
theorem bodegaref1_Lease_eq (k : Nat) (s : bodegaref1_Lease_sig.S) : fnEv (bodegaref1_Lease_C k) k bodegaref1_Lease_sig Tryz.f33 bodegaref1_Lease_code (bodegaref1_Lease_ac k) s = (bodegaref1_Lease_te k).F s := by kernel_rfl
theorem bodegaref1_Lease_ok (k : Nat) : CallOk Tryz.prog 33 (bodegaref1_Lease_te k) :=
  fn_ok (C := bodegaref1_Lease_C k) (code := bodegaref1_Lease_code) (g := bodegaref1_Lease_sig) (k := k) (Fn := (bodegaref1_Lease_te k).F) mixed (tysOk _ _ _) (eqsOk _ _ _) (bodegaref1_Lease_tab k) Tryz.func33 (by kernel_rfl) (by kernel_rfl) (of_decide_eq_true (by kernel_rfl)) (by kernel_rfl) (by kernel_rfl) (by kernel_rfl)
    (fun s q h => ⟨bodegaref1_Lease_ac k, ok_of_fix _ _ (bodegaref1_Lease_fix k), (bodegaref1_Lease_eq k s).trans h⟩)

/-! #### bodega/bodegaref9.Full -/
noncomputable def bodegaref9_Full_L1 (_k : Nat) (v_1 : TView) (l_3 : (List TMember)) (i_4 : Int) : Option ((TView × (List TMember) × Int × Unit) ⊕ (((List TMember) × Unit))) :=
  bif (decide (i_4 < (v_1.2.1.length : Int))) then
    bif (decide ((0:Int) ≤ i_4) && decide (i_4 < (v_1.2.1.length : Int))) then
      bif (v_1.2.1.getD (i_4.toNat) ((0:Int), (0:Int), false, ())).2.2.1 then
        bif (decide ((0:Int) ≤ i_4) && decide (i_4 < (v_1.2.1.length : Int))) then
          bif (decide (l_3.length + [(v_1.2.1.getD (i_4.toNat) ((0:Int), (0:Int), false, ()))].length < 1073741824)) then
            some (.inl (v_1, (l_3 ++ [(v_1.2.1.getD (i_4.toNat) ((0:Int), (0:Int), false, ()))]), (IntKind.i64.wrap (i_4 + (1:Int))), ()))
          else none
        else none
      else
        some (.inl (v_1, l_3, (IntKind.i64.wrap (i_4 + (1:Int))), ()))
    else none
  else
    some (.inr (l_3, ()))
noncomputable def bodegaref9_Full_L1_it (k : Nat) (v_1 : TView) (l_3 : (List TMember)) (i_4 : Int) : Option (((List TMember) × Unit)) :=
  iterO (fun s : TView × (List TMember) × Int × Unit => bodegaref9_Full_L1 k s.1 s.2.1 s.2.2.1) k (v_1, l_3, i_4, ())
noncomputable def bodegaref9_Full (k : Nat) (v_0 : TView) : Option ((List TMember) × Unit) :=
  Option.bind (bodegaref9_Full_L1_it k v_0 ([] : (List TMember)) (0:Int)) fun o1 =>
  some (o1.1, ())
def bodegaref9_Full_sig : Sig := ⟨[⟨false, y3, .s, .s⟩], [((.list y9), (.o .s))]⟩
noncomputable def bodegaref9_Full_te (k : Nat) : TE := ⟨bodegaref9_Full_sig, fun s => bodegaref9_Full k s.1⟩
noncomputable def bodegaref9_Full_C (_k : Nat) : Ctx := cx [] [] []
noncomputable def bodegaref9_Full_code : Code := Tryz.f70.body.getD .skip
theorem bodegaref9_Full_tab (k : Nat) : TabOk Tryz.prog (bodegaref9_Full_C k) := ⟨tab_nil, lay_nil⟩
noncomputable def bodegaref9_Full_ac (k : Nat) : AC := (.sq .rg (.sq .rg (.sq (.sq .rg (.bk (.lp [(1, .bo y3 .s), (3, .va (.list y9) (.o .s)), (4, .va (.int .i64) .s)] [(.exit 0, [(3, .va (.list y9) (.o .s))])] (fun s => bodegaref9_Full_L1 k s.1 s.2.1 s.2.2.1) (.sq (.sq .rg (.cd .nx .nx)) (.sq (.bk (.sq .rg (.cd .rg .nx))) .rg))))) (.sq .rg .nx))))
theorem bodegaref9_Full_fix (k : Nat) : acFix (bodegaref9_Full_C k) k 27 (bodegaref9_Full_ac k) bodegaref9_Full_code = bodegaref9_Full_ac k := by kernel_rfl
theorem bodegaref9_Full_eq (k : Nat) (s : bodegaref9_Full_sig.S) : fnEv (bodegaref9_Full_C k) k bodegaref9_Full_sig Tryz.f70 bodegaref9_Full_code (bodegaref9_Full_ac k) s = (bodegaref9_Full_te k).F s := by kernel_rfl
theorem bodegaref9_Full_ok (k : Nat) : CallOk Tryz.prog 70 (bodegaref9_Full_te k) :=
  fn_ok (C := bodegaref9_Full_C k) (code := bodegaref9_Full_code) (g := bodegaref9_Full_sig) (k := k) (Fn := (bodegaref9_Full_te k).F) mixed (tysOk _ _ _) (eqsOk _ _ _) (bodegaref9_Full_tab k) Tryz.func70 (by kernel_rfl) (by kernel_rfl) (of_decide_eq_true (by kernel_rfl)) (by kernel_rfl) (by kernel_rfl) (by kernel_rfl)
    (fun s q h => ⟨bodegaref9_Full_ac k, ok_of_fix _ _ (bodegaref9_Full_fix k), (bodegaref9_Full_eq k s).trans h⟩)

/-! #### bodega/bodegaref9.ValidView -/
noncomputable def bodegaref9_ValidView_L1 (_k : Nat) (nodes_1 : Int) (v_2 : TView) (i_5 : Int) : Option ((Int × TView × Int × Unit) ⊕ ((Int × Unit) ⊕ (TView × Unit))) :=
  bif (decide (i_5 < (v_2.2.1.length : Int))) then
    bif (decide ((0:Int) ≤ i_5) && decide (i_5 < (v_2.2.1.length : Int))) then
      bif ((decide ((0:Int) ≤ (IntKind.i64.wrap (i_5 - (1:Int)))) && decide ((IntKind.i64.wrap (i_5 - (1:Int))) < (v_2.2.1.length : Int))) || (!((decide ((0:Int) < i_5)) && (!(bif (decide ((v_2.2.1.getD (i_5.toNat) ((0:Int), (0:Int), false, ())).1 < (0:Int))) then true else (decide (nodes_1 ≤ (v_2.2.1.getD (i_5.toNat) ((0:Int), (0:Int), false, ())).1))))))) then
        bif (bif (bif (decide ((v_2.2.1.getD (i_5.toNat) ((0:Int), (0:Int), false, ())).1 < (0:Int))) then true else (decide (nodes_1 ≤ (v_2.2.1.getD (i_5.toNat) ((0:Int), (0:Int), false, ())).1))) then true else (bif (decide ((0:Int) < i_5)) then (decide ((v_2.2.1.getD (i_5.toNat) ((0:Int), (0:Int), false, ())).1 ≤ (v_2.2.1.getD ((IntKind.i64.wrap (i_5 - (1:Int))).toNat) ((0:Int), (0:Int), false, ())).1)) else false)) then
          some (.inr (.inl ((1:Int), ())))
        else
          some (.inl (nodes_1, v_2, (IntKind.i64.wrap (i_5 + (1:Int))), ()))
      else none
    else none
  else
    some (.inr (.inr (v_2, ())))
noncomputable def bodegaref9_ValidView_L1_it (k : Nat) (nodes_1 : Int) (v_2 : TView) (i_5 : Int) : Option ((Int × Unit) ⊕ (TView × Unit)) :=
  iterO (fun s : Int × TView × Int × Unit => bodegaref9_ValidView_L1 k s.1 s.2.1 s.2.2.1) k (nodes_1, v_2, i_5, ())
noncomputable def bodegaref9_ValidView_L2 (_k : Nat) (v_2 : TView) (i_7 : Int) : Option ((TView × Int × Unit) ⊕ ((Int × Unit) ⊕ (TView × Unit))) :=
  bif (decide (i_7 < (v_2.2.1.length : Int))) then
    bif (decide ((0:Int) ≤ i_7) && decide (i_7 < (v_2.2.1.length : Int))) then
      bif (bif (decide ((v_2.2.1.getD (i_7.toNat) ((0:Int), (0:Int), false, ())).2.1 < (1:Int))) then true else (decide ((31:Int) < (v_2.2.1.getD (i_7.toNat) ((0:Int), (0:Int), false, ())).2.1))) then
        some (.inr (.inl ((2:Int), ())))
      else
        some (.inl (v_2, (IntKind.i64.wrap (i_7 + (1:Int))), ()))
    else none
  else
    some (.inr (.inr (v_2, ())))
noncomputable def bodegaref9_ValidView_L2_it (k : Nat) (v_2 : TView) (i_7 : Int) : Option ((Int × Unit) ⊕ (TView × Unit)) :=
  iterO (fun s : TView × Int × Unit => bodegaref9_ValidView_L2 k s.1 s.2.1) k (v_2, i_7, ())
noncomputable def bodegaref9_ValidView (k : Nat) (v_0 : TView) (nodes_1 : Int) : Option (Int × Unit) :=
  bif (bif (decide (nodes_1 < (1:Int))) then true else (decide ((5:Int) < nodes_1))) then
    some ((1:Int), ())
  else
    bif (bif (decide (v_0.1 < (0:Int))) then true else (decide ((16:Int) ≤ v_0.1))) then
      some ((2:Int), ())
    else
      Option.bind (bodegaref9_ValidView_L1_it k nodes_1 v_0 (0:Int)) fun o1 =>
      Sum.elim (fun o2 =>
        some (o2.1, ())) (fun o3 =>
        bif (decide ((o3.1.2.1.length : Int) = (0:Int))) then
          some ((1:Int), ())
        else
          Option.bind (bodegaref9_ValidView_L2_it k o3.1 (0:Int)) fun o4 =>
          Sum.elim (fun o5 =>
            some (o5.1, ())) (fun o6 =>
            Option.bind (bodegaref9_Full k o6.1) fun r7 =>
            bif (decide ((r7.1.length : Int) = (0:Int))) then
              some ((13:Int), ())
            else
              some ((0:Int), ())) o4) o1
def bodegaref9_ValidView_sig : Sig := ⟨[⟨false, y3, .s, .s⟩, ⟨false, (.int .i64), .s, .s⟩], [((.int .i64), .s)]⟩
noncomputable def bodegaref9_ValidView_te (k : Nat) : TE := ⟨bodegaref9_ValidView_sig, fun s => bodegaref9_ValidView k s.1 s.2.1⟩
noncomputable def bodegaref9_ValidView_C (k : Nat) : Ctx := cx [(70, bodegaref9_Full_te k)] [] []
noncomputable def bodegaref9_ValidView_code : Code := Tryz.f34.body.getD .skip
theorem bodegaref9_ValidView_tab (k : Nat) : TabOk Tryz.prog (bodegaref9_ValidView_C k) := ⟨tab_cons (bodegaref9_Full_ok k) (tab_nil), lay_nil⟩
noncomputable def bodegaref9_ValidView_ac (k : Nat) : AC := (.sq .rg (.sq (.sq .rg (.cd (.sq .rg .nx) .nx)) (.sq (.sq .rg (.cd (.sq .rg .nx) .nx)) (.sq (.sq .rg (.bk (.lp [(1, .va (.int .i64) .s), (2, .bo y3 .s), (5, .va (.int .i64) .s)] [(.ret, [(4, .va (.int .i64) .s)]), (.exit 0, [(2, .bo y3 .s)])] (fun s => bodegaref9_ValidView_L1 k s.1 s.2.1 s.2.2.1) (.sq (.sq .rg (.cd .nx .nx)) (.sq (.bk (.sq .rg (.sq .rg (.cd (.sq .rg .nx) .nx)))) .rg))))) (.sq (.sq .rg (.cd (.sq .rg .nx) .nx)) (.sq (.sq .rg (.bk (.lp [(2, .bo y3 .s), (7, .va (.int .i64) .s)] [(.ret, [(4, .va (.int .i64) .s)]), (.exit 2, [(2, .bo y3 .s)])] (fun s => bodegaref9_ValidView_L2 k s.1 s.2.1) (.sq (.sq .rg (.cd .nx .nx)) (.sq (.bk (.sq .rg (.sq .rg (.cd (.sq .rg .nx) .nx)))) .rg))))) (.sq (.sq .rg (.cd (.sq .rg .nx) .nx)) (.sq .rg .nx))))))))
theorem bodegaref9_ValidView_fix (k : Nat) : acFix (bodegaref9_ValidView_C k) k 85 (bodegaref9_ValidView_ac k) bodegaref9_ValidView_code = bodegaref9_ValidView_ac k := by kernel_rfl
theorem bodegaref9_ValidView_eq (k : Nat) (s : bodegaref9_ValidView_sig.S) : fnEv (bodegaref9_ValidView_C k) k bodegaref9_ValidView_sig Tryz.f34 bodegaref9_ValidView_code (bodegaref9_ValidView_ac k) s = (bodegaref9_ValidView_te k).F s := by kernel_rfl
theorem bodegaref9_ValidView_ok (k : Nat) : CallOk Tryz.prog 34 (bodegaref9_ValidView_te k) :=
  fn_ok (C := bodegaref9_ValidView_C k) (code := bodegaref9_ValidView_code) (g := bodegaref9_ValidView_sig) (k := k) (Fn := (bodegaref9_ValidView_te k).F) mixed (tysOk _ _ _) (eqsOk _ _ _) (bodegaref9_ValidView_tab k) Tryz.func34 (by kernel_rfl) (by kernel_rfl) (of_decide_eq_true (by kernel_rfl)) (by kernel_rfl) (by kernel_rfl) (by kernel_rfl)
    (fun s q h => ⟨bodegaref9_ValidView_ac k, ok_of_fix _ _ (bodegaref9_ValidView_fix k), (bodegaref9_ValidView_eq k s).trans h⟩)

/-! #### bodega/bodegaref1.LeaseAt -/
noncomputable def bodegaref1_LeaseAt (k : Nat) (c_0 : Int) : Option (Int × Unit) :=
  Option.bind (bodegaref1_Client k c_0) fun r1 =>
  bif (!r1.1) then
    some ((-1:Int), ())
  else
    some ((IntKind.i64.wrap ((40:Int) + c_0)), ())
def bodegaref1_LeaseAt_sig : Sig := ⟨[⟨false, (.int .i64), .s, .s⟩], [((.int .i64), .s)]⟩
noncomputable def bodegaref1_LeaseAt_te (k : Nat) : TE := ⟨bodegaref1_LeaseAt_sig, fun s => bodegaref1_LeaseAt k s.1⟩
noncomputable def bodegaref1_LeaseAt_C (k : Nat) : Ctx := cx [(32, bodegaref1_Client_te k)] [] []
noncomputable def bodegaref1_LeaseAt_code : Code := Tryz.f36.body.getD .skip
theorem bodegaref1_LeaseAt_tab (k : Nat) : TabOk Tryz.prog (bodegaref1_LeaseAt_C k) := ⟨tab_cons (bodegaref1_Client_ok k) (tab_nil), lay_nil⟩
noncomputable def bodegaref1_LeaseAt_ac (_k : Nat) : AC := (.sq .rg (.sq (.sq .rg (.cd (.sq .rg .nx) .nx)) (.sq .rg .nx)))
theorem bodegaref1_LeaseAt_fix (k : Nat) : acFix (bodegaref1_LeaseAt_C k) k 8 (bodegaref1_LeaseAt_ac k) bodegaref1_LeaseAt_code = bodegaref1_LeaseAt_ac k := by kernel_rfl
theorem bodegaref1_LeaseAt_eq (k : Nat) (s : bodegaref1_LeaseAt_sig.S) : fnEv (bodegaref1_LeaseAt_C k) k bodegaref1_LeaseAt_sig Tryz.f36 bodegaref1_LeaseAt_code (bodegaref1_LeaseAt_ac k) s = (bodegaref1_LeaseAt_te k).F s := by kernel_rfl
theorem bodegaref1_LeaseAt_ok (k : Nat) : CallOk Tryz.prog 36 (bodegaref1_LeaseAt_te k) :=
  fn_ok (C := bodegaref1_LeaseAt_C k) (code := bodegaref1_LeaseAt_code) (g := bodegaref1_LeaseAt_sig) (k := k) (Fn := (bodegaref1_LeaseAt_te k).F) mixed (tysOk _ _ _) (eqsOk _ _ _) (bodegaref1_LeaseAt_tab k) Tryz.func36 (by kernel_rfl) (by kernel_rfl) (of_decide_eq_true (by kernel_rfl)) (by kernel_rfl) (by kernel_rfl) (by kernel_rfl)
    (fun s q h => ⟨bodegaref1_LeaseAt_ac k, ok_of_fix _ _ (bodegaref1_LeaseAt_fix k), (bodegaref1_LeaseAt_eq k s).trans h⟩)

end Go.Proofs.YtkgjdglkkoabmaaGreat.N

set_option maxRecDepth 1000000
namespace Go.Proofs.YtkgjdglkkoabmaaGreat.N
open Go.VL Go.Proofs

/-! #### bodega/bodegaref1.Key -/
noncomputable def bodegaref1_Key (_k : Nat) (number_0 : Int) (t_1 : Bool) : Option (Int × Int × Unit) :=
  bif (bif (decide (number_0 < (0:Int))) then true else (decide ((16:Int) ≤ number_0))) then
    some ((0:Int), (2:Int), ())
  else
    bif t_1 then
      some ((IntKind.u64.wrap ((IntKind.u64.wrap (IntKind.i64.wrap ((2:Int) * number_0))) + (1:Int))), (0:Int), ())
    else
      some ((IntKind.u64.wrap (IntKind.i64.wrap ((2:Int) * number_0))), (0:Int), ())
def bodegaref1_Key_sig : Sig := ⟨[⟨false, (.int .i64), .s, .s⟩, ⟨false, .bool, .s, .s⟩], [((.int .u64), .s), ((.int .i64), .s)]⟩
noncomputable def bodegaref1_Key_te (k : Nat) : TE := ⟨bodegaref1_Key_sig, fun s => bodegaref1_Key k s.1 s.2.1⟩
noncomputable def bodegaref1_Key_C (_k : Nat) : Ctx := cx [] [] []
noncomputable def bodegaref1_Key_code : Code := Tryz.f88.body.getD .skip
theorem bodegaref1_Key_tab (k : Nat) : TabOk Tryz.prog (bodegaref1_Key_C k) := ⟨tab_nil, lay_nil⟩
noncomputable def bodegaref1_Key_ac (_k : Nat) : AC := (.sq .rg (.sq (.sq .rg (.cd (.sq .rg .nx) .nx)) (.sq .rg (.sq (.sq .rg (.cd .rg .nx)) (.sq .rg .nx)))))
theorem bodegaref1_Key_fix (k : Nat) : acFix (bodegaref1_Key_C k) k 20 (bodegaref1_Key_ac k) bodegaref1_Key_code = bodegaref1_Key_ac k := by kernel_rfl
theorem bodegaref1_Key_eq (k : Nat) (s : bodegaref1_Key_sig.S) : fnEv (bodegaref1_Key_C k) k bodegaref1_Key_sig Tryz.f88 bodegaref1_Key_code (bodegaref1_Key_ac k) s = (bodegaref1_Key_te k).F s := by kernel_rfl
theorem bodegaref1_Key_ok (k : Nat) : CallOk Tryz.prog 88 (bodegaref1_Key_te k) :=
  fn_ok (C := bodegaref1_Key_C k) (code := bodegaref1_Key_code) (g := bodegaref1_Key_sig) (k := k) (Fn := (bodegaref1_Key_te k).F) mixed (tysOk _ _ _) (eqsOk _ _ _) (bodegaref1_Key_tab k) Tryz.func88 (by kernel_rfl) (by kernel_rfl) (of_decide_eq_true (by kernel_rfl)) (by kernel_rfl) (by kernel_rfl) (by kernel_rfl)
    (fun s q h => ⟨bodegaref1_Key_ac k, ok_of_fix _ _ (bodegaref1_Key_fix k), (bodegaref1_Key_eq k s).trans h⟩)

/-! #### bodega/bodegaref9.Address -/
noncomputable def bodegaref9_Address (k : Nat) (v_0 : TView) (m_1 : TMember) (t_2 : Bool) (x_3 : TVerb) : Option (TVerb × Unit) :=
  let v1 := (x_3.1, m_1.1, x_3.2.2.1, x_3.2.2.2.1, x_3.2.2.2.2.1, x_3.2.2.2.2.2.1, x_3.2.2.2.2.2.2.1, x_3.2.2.2.2.2.2.2.1, m_1.2.1, x_3.2.2.2.2.2.2.2.2.2)
  Option.bind (bodegaref1_Key k v_0.1 t_2) fun r2 =>
  let v3 := (v1.1, v1.2.1, v1.2.2.1, v1.2.2.2.1, v1.2.2.2.2.1, v1.2.2.2.2.2.1, v1.2.2.2.2.2.2.1, r2.1, v1.2.2.2.2.2.2.2.2)
  some (v3, ())
def bodegaref9_Address_sig : Sig := ⟨[⟨false, y3, .s, .s⟩, ⟨false, y9, .s, .s⟩, ⟨false, .bool, .s, .s⟩, ⟨false, y2, .s, .s⟩], [(y2, .s)]⟩
noncomputable def bodegaref9_Address_te (k : Nat) : TE := ⟨bodegaref9_Address_sig, fun s => bodegaref9_Address k s.1 s.2.1 s.2.2.1 s.2.2.2.1⟩
noncomputable def bodegaref9_Address_C (k : Nat) : Ctx := cx [(88, bodegaref1_Key_te k)] [] []
noncomputable def bodegaref9_Address_code : Code := Tryz.f71.body.getD .skip
theorem bodegaref9_Address_tab (k : Nat) : TabOk Tryz.prog (bodegaref9_Address_C k) := ⟨tab_cons (bodegaref1_Key_ok k) (tab_nil), lay_nil⟩
noncomputable def bodegaref9_Address_ac (_k : Nat) : AC := (.sq .rg (.sq .rg (.sq .rg (.sq .rg .nx))))
theorem bodegaref9_Address_fix (k : Nat) : acFix (bodegaref9_Address_C k) k 24 (bodegaref9_Address_ac k) bodegaref9_Address_code = bodegaref9_Address_ac k := by kernel_rfl
theorem bodegaref9_Address_eq (k : Nat) (s : bodegaref9_Address_sig.S) : fnEv (bodegaref9_Address_C k) k bodegaref9_Address_sig Tryz.f71 bodegaref9_Address_code (bodegaref9_Address_ac k) s = (bodegaref9_Address_te k).F s := by kernel_rfl
theorem bodegaref9_Address_ok (k : Nat) : CallOk Tryz.prog 71 (bodegaref9_Address_te k) :=
  fn_ok (C := bodegaref9_Address_C k) (code := bodegaref9_Address_code) (g := bodegaref9_Address_sig) (k := k) (Fn := (bodegaref9_Address_te k).F) mixed (tysOk _ _ _) (eqsOk _ _ _) (bodegaref9_Address_tab k) Tryz.func71 (by kernel_rfl) (by kernel_rfl) (of_decide_eq_true (by kernel_rfl)) (by kernel_rfl) (by kernel_rfl) (by kernel_rfl)
    (fun s q h => ⟨bodegaref9_Address_ac k, ok_of_fix _ _ (bodegaref9_Address_fix k), (bodegaref9_Address_eq k s).trans h⟩)

/-! #### bodega/bodegaref9.put -/
noncomputable def bodegaref9_put (k : Nat) (v_0 : TView) (m_1 : TMember) (t_2 : Int) (words_3 : (List Int)) : Option (TVerb × Unit) :=
  Option.bind (bodegaref9_Address k v_0 m_1 true ((2:Int), (0:Int), t_2, (0:Int), (0:Int), (0:Int), words_3, (0:Int), (0:Int), ())) fun r1 =>
  some (r1.1, ())
def bodegaref9_put_sig : Sig := ⟨[⟨false, y3, .s, .s⟩, ⟨false, y9, .s, .s⟩, ⟨false, (.int .i64), .s, .s⟩, ⟨false, (.list (.int .u64)), .s, .s⟩], [(y2, .s)]⟩
noncomputable def bodegaref9_put_te (k : Nat) : TE := ⟨bodegaref9_put_sig, fun s => bodegaref9_put k s.1 s.2.1 s.2.2.1 s.2.2.2.1⟩
noncomputable def bodegaref9_put_C (k : Nat) : Ctx := cx [(71, bodegaref9_Address_te k)] [] []
noncomputable def bodegaref9_put_code : Code := Tryz.f35.body.getD .skip
theorem bodegaref9_put_tab (k : Nat) : TabOk Tryz.prog (bodegaref9_put_C k) := ⟨tab_cons (bodegaref9_Address_ok k) (tab_nil), lay_nil⟩
noncomputable def bodegaref9_put_ac (_k : Nat) : AC := (.sq .rg (.sq .rg .nx))
theorem bodegaref9_put_fix (k : Nat) : acFix (bodegaref9_put_C k) k 15 (bodegaref9_put_ac k) bodegaref9_put_code = bodegaref9_put_ac k := by kernel_rfl
theorem bodegaref9_put_eq (k : Nat) (s : bodegaref9_put_sig.S) : fnEv (bodegaref9_put_C k) k bodegaref9_put_sig Tryz.f35 bodegaref9_put_code (bodegaref9_put_ac k) s = (bodegaref9_put_te k).F s := by kernel_rfl
theorem bodegaref9_put_ok (k : Nat) : CallOk Tryz.prog 35 (bodegaref9_put_te k) :=
  fn_ok (C := bodegaref9_put_C k) (code := bodegaref9_put_code) (g := bodegaref9_put_sig) (k := k) (Fn := (bodegaref9_put_te k).F) mixed (tysOk _ _ _) (eqsOk _ _ _) (bodegaref9_put_tab k) Tryz.func35 (by kernel_rfl) (by kernel_rfl) (of_decide_eq_true (by kernel_rfl)) (by kernel_rfl) (by kernel_rfl) (by kernel_rfl)
    (fun s q h => ⟨bodegaref9_put_ac k, ok_of_fix _ _ (bodegaref9_put_fix k), (bodegaref9_put_eq k s).trans h⟩)

/-! #### bodega/bodegaref4.Returns -/
noncomputable def bodegaref4_Returns (_k : Nat) (v_0 : TVerb) : Option (Int × Unit) :=
  bif (decide (v_0.1 = (1:Int))) then
    some (v_0.2.2.2.1, ())
  else
    bif (decide (v_0.1 = (2:Int))) then
      some ((0:Int), ())
    else
      some ((1:Int), ())
def bodegaref4_Returns_sig : Sig := ⟨[⟨false, y2, .s, .s⟩], [((.int .i64), .s)]⟩
noncomputable def bodegaref4_Returns_te (k : Nat) : TE := ⟨bodegaref4_Returns_sig, fun s => bodegaref4_Returns k s.1⟩
noncomputable def bodegaref4_Returns_C (_k : Nat) : Ctx := cx [] [] []
noncomputable def bodegaref4_Returns_code : Code := Tryz.f106.body.getD .skip
theorem bodegaref4_Returns_tab (k : Nat) : TabOk Tryz.prog (bodegaref4_Returns_C k) := ⟨tab_nil, lay_nil⟩
noncomputable def bodegaref4_Returns_ac (_k : Nat) : AC := (.sq .rg (.sq (.sq .rg (.bk (.sq .rg (.cd (.sq .rg .nx) (.sq .rg (.cd (.sq .rg .nx) .nx)))))) (.sq .rg .nx)))
theorem bodegaref4_Returns_fix (k : Nat) : acFix (bodegaref4_Returns_C k) k 11 (bodegaref4_Returns_ac k) bodegaref4_Returns_code = bodegaref4_Returns_ac k := by kernel_rfl
theorem bodegaref4_Returns_eq (k : Nat) (s : bodegaref4_Returns_sig.S) : fnEv (bodegaref4_Returns_C k) k bodegaref4_Returns_sig Tryz.f106 bodegaref4_Returns_code (bodegaref4_Returns_ac k) s = (bodegaref4_Returns_te k).F s := by kernel_rfl
theorem bodegaref4_Returns_ok (k : Nat) : CallOk Tryz.prog 106 (bodegaref4_Returns_te k) :=
  fn_ok (C := bodegaref4_Returns_C k) (code := bodegaref4_Returns_code) (g := bodegaref4_Returns_sig) (k := k) (Fn := (bodegaref4_Returns_te k).F) mixed (tysOk _ _ _) (eqsOk _ _ _) (bodegaref4_Returns_tab k) Tryz.func106 (by kernel_rfl) (by kernel_rfl) (of_decide_eq_true (by kernel_rfl)) (by kernel_rfl) (by kernel_rfl) (by kernel_rfl)
    (fun s q h => ⟨bodegaref4_Returns_ac k, ok_of_fix _ _ (bodegaref4_Returns_fix k), (bodegaref4_Returns_eq k s).trans h⟩)

/-! #### bodega/bodegaref4.Fit -/
noncomputable def bodegaref4_Fit_L1 (k : Nat) (asked_0 : (List TVerb)) (got_1 : (List TClocksOutcome)) (i_5 : Int) : Option (((List TVerb) × (List TClocksOutcome) × Int × Unit) ⊕ ((Bool × Unit) ⊕ (Unit))) :=
  bif (decide (i_5 < (got_1.length : Int))) then
    bif (decide ((0:Int) ≤ i_5) && decide (i_5 < (got_1.length : Int))) then
      bif (bif (bif (!(decide ((got_1.getD (i_5.toNat) ((0:Int), ([] : (List Int)), ())).1 = (0:Int)))) then (!(decide ((got_1.getD (i_5.toNat) ((0:Int), ([] : (List Int)), ())).1 = (4:Int)))) else false) then (!(decide ((got_1.getD (i_5.toNat) ((0:Int), ([] : (List Int)), ())).1 = (5:Int)))) else false) then
        some (.inr (.inl (false, ())))
      else
        bif ((decide ((0:Int) ≤ i_5) && decide (i_5 < (asked_0.length : Int))) || (!(decide ((got_1.getD (i_5.toNat) ((0:Int), ([] : (List Int)), ())).1 = (0:Int))))) then
          Option.bind (bif (decide ((got_1.getD (i_5.toNat) ((0:Int), ([] : (List Int)), ())).1 = (0:Int))) then bodegaref4_Returns k (asked_0.getD (i_5.toNat) ((0:Int), (0:Int), (0:Int), (0:Int), (0:Int), (0:Int), ([] : (List Int)), (0:Int), (0:Int), ())) else some ((0:Int), ())) fun r1 =>
          bif (bif (bif (decide ((got_1.getD (i_5.toNat) ((0:Int), ([] : (List Int)), ())).1 = (0:Int))) then (!(decide (((got_1.getD (i_5.toNat) ((0:Int), ([] : (List Int)), ())).2.1.length : Int) = r1.1))) else false) then true else (bif (!(decide ((got_1.getD (i_5.toNat) ((0:Int), ([] : (List Int)), ())).1 = (0:Int)))) then (!(decide (((got_1.getD (i_5.toNat) ((0:Int), ([] : (List Int)), ())).2.1.length : Int) = (0:Int)))) else false)) then
            some (.inr (.inl (false, ())))
          else
            some (.inl (asked_0, got_1, (IntKind.i64.wrap (i_5 + (1:Int))), ()))
        else none
    else none
  else
    some (.inr (.inr ()))
noncomputable def bodegaref4_Fit_L1_it (k : Nat) (asked_0 : (List TVerb)) (got_1 : (List TClocksOutcome)) (i_5 : Int) : Option ((Bool × Unit) ⊕ (Unit)) :=
  iterO (fun s : (List TVerb) × (List TClocksOutcome) × Int × Unit => bodegaref4_Fit_L1 k s.1 s.2.1 s.2.2.1) k (asked_0, got_1, i_5, ())
noncomputable def bodegaref4_Fit (k : Nat) (asked_0 : (List TVerb)) (got_1 : (List TClocksOutcome)) : Option (Bool × Unit) :=
  bif (!(decide ((asked_0.length : Int) = (got_1.length : Int)))) then
    some (false, ())
  else
    Option.bind (bodegaref4_Fit_L1_it k asked_0 got_1 (0:Int)) fun o2 =>
    Sum.elim (fun o3 =>
      some (o3.1, ())) (fun _o4 =>
      some (true, ())) o2
def bodegaref4_Fit_sig : Sig := ⟨[⟨false, (.list y2), .s, .s⟩, ⟨false, (.list y4), .s, .s⟩], [(.bool, .s)]⟩
noncomputable def bodegaref4_Fit_te (k : Nat) : TE := ⟨bodegaref4_Fit_sig, fun s => bodegaref4_Fit k s.1 s.2.1⟩
noncomputable def bodegaref4_Fit_C (k : Nat) : Ctx := cx [(106, bodegaref4_Returns_te k)] [] []
noncomputable def bodegaref4_Fit_code : Code := Tryz.f89.body.getD .skip
theorem bodegaref4_Fit_tab (k : Nat) : TabOk Tryz.prog (bodegaref4_Fit_C k) := ⟨tab_cons (bodegaref4_Returns_ok k) (tab_nil), lay_nil⟩
noncomputable def bodegaref4_Fit_ac (k : Nat) : AC := (.sq .rg (.sq (.sq .rg (.cd (.sq .rg .nx) .nx)) (.sq (.sq .rg (.bk (.lp [(0, .va (.list y2) .s), (1, .va (.list y4) .s), (5, .va (.int .i64) .s)] [(.ret, [(4, .va .bool .s)]), (.exit 0, [])] (fun s => bodegaref4_Fit_L1 k s.1 s.2.1 s.2.2.1) (.sq (.sq .rg (.cd .nx .nx)) (.sq (.bk (.sq .rg (.sq (.sq .rg (.cd (.sq .rg .nx) .nx)) (.sq .rg (.cd (.sq .rg .nx) .nx))))) .rg))))) (.sq .rg .nx))))
theorem bodegaref4_Fit_fix (k : Nat) : acFix (bodegaref4_Fit_C k) k 60 (bodegaref4_Fit_ac k) bodegaref4_Fit_code = bodegaref4_Fit_ac k := by kernel_rfl
theorem bodegaref4_Fit_eq (k : Nat) (s : bodegaref4_Fit_sig.S) : fnEv (bodegaref4_Fit_C k) k bodegaref4_Fit_sig Tryz.f89 bodegaref4_Fit_code (bodegaref4_Fit_ac k) s = (bodegaref4_Fit_te k).F s := by kernel_rfl
theorem bodegaref4_Fit_ok (k : Nat) : CallOk Tryz.prog 89 (bodegaref4_Fit_te k) :=
  fn_ok (C := bodegaref4_Fit_C k) (code := bodegaref4_Fit_code) (g := bodegaref4_Fit_sig) (k := k) (Fn := (bodegaref4_Fit_te k).F) mixed (tysOk _ _ _) (eqsOk _ _ _) (bodegaref4_Fit_tab k) Tryz.func89 (by kernel_rfl) (by kernel_rfl) (of_decide_eq_true (by kernel_rfl)) (by kernel_rfl) (by kernel_rfl) (by kernel_rfl)
    (fun s q h => ⟨bodegaref4_Fit_ac k, ok_of_fix _ _ (bodegaref4_Fit_fix k), (bodegaref4_Fit_eq k s).trans h⟩)

/-! #### (*bodega/bodegaref9.talk).trip -/
noncomputable def bodegaref9_talk_trip (k : Nat) (t_0 : Ttalk) (l_1 : (List TVerb)) : Option ((List TClocksOutcome) × Bool × Ttalk × Unit) :=
  bif (decide ((l_1.length : Int) = (0:Int))) then
    some (([] : (List TClocksOutcome)), true, t_0, ())
  else
    bif (decide (t_0.2.1 = (t_0.1.length : Int))) then
      some (([] : (List TClocksOutcome)), false, (t_0.1, t_0.2.1, l_1, t_0.2.2.2), ())
    else
      bif (decide ((0:Int) ≤ t_0.2.1) && decide (t_0.2.1 < (t_0.1.length : Int))) then
        Option.bind (bodegaref4_Fit k l_1 (t_0.1.getD (t_0.2.1.toNat) ([] : (List TClocksOutcome)))) fun r1 =>
        bif (!r1.1) then
          some (([] : (List TClocksOutcome)), false, (t_0.1, (IntKind.i64.wrap (t_0.2.1 + (1:Int))), t_0.2.2.1, true, t_0.2.2.2.2), ())
        else
          some ((t_0.1.getD (t_0.2.1.toNat) ([] : (List TClocksOutcome))), true, (t_0.1, (IntKind.i64.wrap (t_0.2.1 + (1:Int))), t_0.2.2), ())
      else none
def bodegaref9_talk_trip_sig : Sig := ⟨[⟨true, y18, (.p .s q2), .s⟩, ⟨false, (.list y2), .s, .s⟩], [((.list y4), .s), (.bool, .s)]⟩
noncomputable def bodegaref9_talk_trip_te (k : Nat) : TE := ⟨bodegaref9_talk_trip_sig, fun s => bodegaref9_talk_trip k s.1 s.2.1⟩
noncomputable def bodegaref9_talk_trip_C (k : Nat) : Ctx := cx [(89, bodegaref4_Fit_te k)] [] []
noncomputable def bodegaref9_talk_trip_code : Code := Tryz.f72.body.getD .skip
theorem bodegaref9_talk_trip_tab (k : Nat) : TabOk Tryz.prog (bodegaref9_talk_trip_C k) := ⟨tab_cons (bodegaref4_Fit_ok k) (tab_nil), lay_nil⟩
noncomputable def bodegaref9_talk_trip_ac (_k : Nat) : AC := (.sq .rg (.sq (.sq .rg (.cd (.sq .rg .nx) .nx)) (.sq (.sq .rg (.cd (.sq .rg (.sq .rg .nx)) .nx)) (.sq .rg (.sq .rg (.sq (.sq .rg (.cd (.sq .rg (.sq .rg .nx)) .nx)) (.sq .rg .nx)))))))
theorem bodegaref9_talk_trip_fix (k : Nat) : acFix (bodegaref9_talk_trip_C k) k 49 (bodegaref9_talk_trip_ac k) bodegaref9_talk_trip_code = bodegaref9_talk_trip_ac k := by kernel_rfl
theorem bodegaref9_talk_trip_eq (k : Nat) (s : bodegaref9_talk_trip_sig.S) : fnEv (bodegaref9_talk_trip_C k) k bodegaref9_talk_trip_sig Tryz.f72 bodegaref9_talk_trip_code (bodegaref9_talk_trip_ac k) s = (bodegaref9_talk_trip_te k).F s := by kernel_rfl
theorem bodegaref9_talk_trip_ok (k : Nat) : CallOk Tryz.prog 72 (bodegaref9_talk_trip_te k) :=
  fn_ok (C := bodegaref9_talk_trip_C k) (code := bodegaref9_talk_trip_code) (g := bodegaref9_talk_trip_sig) (k := k) (Fn := (bodegaref9_talk_trip_te k).F) mixed (tysOk _ _ _) (eqsOk _ _ _) (bodegaref9_talk_trip_tab k) Tryz.func72 (by kernel_rfl) (by kernel_rfl) (of_decide_eq_true (by kernel_rfl)) (by kernel_rfl) (by kernel_rfl) (by kernel_rfl)
    (fun s q h => ⟨bodegaref9_talk_trip_ac k, ok_of_fix _ _ (bodegaref9_talk_trip_fix k), (bodegaref9_talk_trip_eq k s).trans h⟩)

/-! #### (*bodega/bodegaref9.talk).state -/
noncomputable def bodegaref9_talk_state (_k : Nat) (t_0 : Ttalk) (ok_1 : Bool) : Option (Bool × Bool × Ttalk × Unit) :=
  bif (bif (!ok_1) then (!t_0.2.2.2.1) else false) then
    some (true, true, t_0, ())
  else
    some (false, (bif (!t_0.2.2.2.1) then (decide (t_0.2.1 = (t_0.1.length : Int))) else false), t_0, ())
def bodegaref9_talk_state_sig : Sig := ⟨[⟨true, y18, .s, .s⟩, ⟨false, .bool, .s, .s⟩], [(.bool, .s), (.bool, .s)]⟩
noncomputable def bodegaref9_talk_state_te (k : Nat) : TE := ⟨bodegaref9_talk_state_sig, fun s => bodegaref9_talk_state k s.1 s.2.1⟩
noncomputable def bodegaref9_talk_state_C (_k : Nat) : Ctx := cx [] [] []
noncomputable def bodegaref9_talk_state_code : Code := Tryz.f73.body.getD .skip
theorem bodegaref9_talk_state_tab (k : Nat) : TabOk Tryz.prog (bodegaref9_talk_state_C k) := ⟨tab_nil, lay_nil⟩
noncomputable def bodegaref9_talk_state_ac (_k : Nat) : AC := (.sq .rg (.sq (.sq .rg (.cd (.sq .rg .nx) .nx)) (.sq .rg .nx)))
theorem bodegaref9_talk_state_fix (k : Nat) : acFix (bodegaref9_talk_state_C k) k 32 (bodegaref9_talk_state_ac k) bodegaref9_talk_state_code = bodegaref9_talk_state_ac k := by kernel_rfl
theorem bodegaref9_talk_state_eq (k : Nat) (s : bodegaref9_talk_state_sig.S) : fnEv (bodegaref9_talk_state_C k) k bodegaref9_talk_state_sig Tryz.f73 bodegaref9_talk_state_code (bodegaref9_talk_state_ac k) s = (bodegaref9_talk_state_te k).F s := by kernel_rfl
theorem bodegaref9_talk_state_ok (k : Nat) : CallOk Tryz.prog 73 (bodegaref9_talk_state_te k) :=
  fn_ok (C := bodegaref9_talk_state_C k) (code := bodegaref9_talk_state_code) (g := bodegaref9_talk_state_sig) (k := k) (Fn := (bodegaref9_talk_state_te k).F) mixed (tysOk _ _ _) (eqsOk _ _ _) (bodegaref9_talk_state_tab k) Tryz.func73 (by kernel_rfl) (by kernel_rfl) (of_decide_eq_true (by kernel_rfl)) (by kernel_rfl) (by kernel_rfl) (by kernel_rfl)
    (fun s q h => ⟨bodegaref9_talk_state_ac k, ok_of_fix _ _ (bodegaref9_talk_state_fix k), (bodegaref9_talk_state_eq k s).trans h⟩)

/-! #### bodega/bodegaref9.single -/
noncomputable def bodegaref9_single (k : Nat) (l_0 : (List TVerb)) (got_1 : (List (List TClocksOutcome))) : Option ((List TClocksOutcome) × Bool × Bool × Unit) :=
  Option.bind (bodegaref9_talk_trip k (got_1, (0:Int), ([] : (List TVerb)), false, ()) l_0) fun r1 =>
  Option.bind (bodegaref9_talk_state k r1.2.2.1 r1.2.1) fun r2 =>
  some (r1.1, r2.1, r2.2.1, ())
def bodegaref9_single_sig : Sig := ⟨[⟨false, (.list y2), .s, .s⟩, ⟨false, (.list (.list y4)), .s, .s⟩], [((.list y4), .s), (.bool, .s), (.bool, .s)]⟩
noncomputable def bodegaref9_single_te (k : Nat) : TE := ⟨bodegaref9_single_sig, fun s => bodegaref9_single k s.1 s.2.1⟩
noncomputable def bodegaref9_single_C (k : Nat) : Ctx := cx [(72, bodegaref9_talk_trip_te k), (73, bodegaref9_talk_state_te k)] [] []
noncomputable def bodegaref9_single_code : Code := Tryz.f37.body.getD .skip
theorem bodegaref9_single_tab (k : Nat) : TabOk Tryz.prog (bodegaref9_single_C k) := ⟨tab_cons (bodegaref9_talk_trip_ok k) (tab_cons (bodegaref9_talk_state_ok k) (tab_nil)), lay_nil⟩
noncomputable def bodegaref9_single_ac (_k : Nat) : AC := (.sq .rg (.sq .rg (.sq .rg (.sq .rg (.sq .rg .nx)))))
theorem bodegaref9_single_fix (k : Nat) : acFix (bodegaref9_single_C k) k 27 (bodegaref9_single_ac k) bodegaref9_single_code = bodegaref9_single_ac k := by kernel_rfl
theorem bodegaref9_single_eq (k : Nat) (s : bodegaref9_single_sig.S) : fnEv (bodegaref9_single_C k) k bodegaref9_single_sig Tryz.f37 bodegaref9_single_code (bodegaref9_single_ac k) s = (bodegaref9_single_te k).F s := by kernel_rfl
theorem bodegaref9_single_ok (k : Nat) : CallOk Tryz.prog 37 (bodegaref9_single_te k) :=
  fn_ok (C := bodegaref9_single_C k) (code := bodegaref9_single_code) (g := bodegaref9_single_sig) (k := k) (Fn := (bodegaref9_single_te k).F) mixed (tysOk _ _ _) (eqsOk _ _ _) (bodegaref9_single_tab k) Tryz.func37 (by kernel_rfl) (by kernel_rfl) (of_decide_eq_true (by kernel_rfl)) (by kernel_rfl) (by kernel_rfl) (by kernel_rfl)
    (fun s q h => ⟨bodegaref9_single_ac k, ok_of_fix _ _ (bodegaref9_single_fix k), (bodegaref9_single_eq k s).trans h⟩)

/-! #### bodega/bodegaref4.First -/
noncomputable def bodegaref4_First_L1 (_k : Nat) (got_0 : (List TClocksOutcome)) (i_3 : Int) : Option (((List TClocksOutcome) × Int × Unit) ⊕ ((Int × Unit) ⊕ (Unit))) :=
  bif (decide (i_3 < (got_0.length : Int))) then
    bif (decide ((0:Int) ≤ i_3) && decide (i_3 < (got_0.length : Int))) then
      bif (!(decide ((got_0.getD (i_3.toNat) ((0:Int), ([] : (List Int)), ())).1 = (0:Int)))) then
        bif (decide ((0:Int) ≤ i_3) && decide (i_3 < (got_0.length : Int))) then
          some (.inr (.inl ((got_0.getD (i_3.toNat) ((0:Int), ([] : (List Int)), ())).1, ())))
        else none
      else
        some (.inl (got_0, (IntKind.i64.wrap (i_3 + (1:Int))), ()))
    else none
  else
    some (.inr (.inr ()))
noncomputable def bodegaref4_First_L1_it (k : Nat) (got_0 : (List TClocksOutcome)) (i_3 : Int) : Option ((Int × Unit) ⊕ (Unit)) :=
  iterO (fun s : (List TClocksOutcome) × Int × Unit => bodegaref4_First_L1 k s.1 s.2.1) k (got_0, i_3, ())
noncomputable def bodegaref4_First (k : Nat) (got_0 : (List TClocksOutcome)) : Option (Int × Unit) :=
  Option.bind (bodegaref4_First_L1_it k got_0 (0:Int)) fun o1 =>
  Sum.elim (fun o2 =>
    some (o2.1, ())) (fun _o3 =>
    some ((0:Int), ())) o1
def bodegaref4_First_sig : Sig := ⟨[⟨false, (.list y4), .s, .s⟩], [((.int .i64), .s)]⟩
noncomputable def bodegaref4_First_te (k : Nat) : TE := ⟨bodegaref4_First_sig, fun s => bodegaref4_First k s.1⟩
noncomputable def bodegaref4_First_C (_k : Nat) : Ctx := cx [] [] []
noncomputable def bodegaref4_First_code : Code := Tryz.f38.body.getD .skip
theorem bodegaref4_First_tab (k : Nat) : TabOk Tryz.prog (bodegaref4_First_C k) := ⟨tab_nil, lay_nil⟩
noncomputable def bodegaref4_First_ac (k : Nat) : AC := (.sq .rg (.sq (.sq .rg (.bk (.lp [(0, .va (.list y4) .s), (3, .va (.int .i64) .s)] [(.ret, [(2, .va (.int .i64) .s)]), (.exit 0, [])] (fun s => bodegaref4_First_L1 k s.1 s.2.1) (.sq (.sq .rg (.cd .nx .nx)) (.sq (.bk (.sq .rg (.cd (.sq .rg .nx) .nx))) .rg))))) (.sq .rg .nx)))
theorem bodegaref4_First_fix (k : Nat) : acFix (bodegaref4_First_C k) k 21 (bodegaref4_First_ac k) bodegaref4_First_code = bodegaref4_First_ac k := by kernel_rfl
theorem bodegaref4_First_eq (k : Nat) (s : bodegaref4_First_sig.S) : fnEv (bodegaref4_First_C k) k bodegaref4_First_sig Tryz.f38 bodegaref4_First_code (bodegaref4_First_ac k) s = (bodegaref4_First_te k).F s := by kernel_rfl
theorem bodegaref4_First_ok (k : Nat) : CallOk Tryz.prog 38 (bodegaref4_First_te k) :=
  fn_ok (C := bodegaref4_First_C k) (code := bodegaref4_First_code) (g := bodegaref4_First_sig) (k := k) (Fn := (bodegaref4_First_te k).F) mixed (tysOk _ _ _) (eqsOk _ _ _) (bodegaref4_First_tab k) Tryz.func38 (by kernel_rfl) (by kernel_rfl) (of_decide_eq_true (by kernel_rfl)) (by kernel_rfl) (by kernel_rfl) (by kernel_rfl)
    (fun s q h => ⟨bodegaref4_First_ac k, ok_of_fix _ _ (bodegaref4_First_fix k), (bodegaref4_First_eq k s).trans h⟩)

/-! #### bodega/bodegaref9.Renew -/
noncomputable def bodegaref9_Renew_L1 (k : Nat) (client_0 : Int) (got_4 : (List (List TClocksOutcome))) (v_8 : TView) (w_13 : Int) (l_16 : (List TVerb)) (i_17 : Int) : Option ((Int × (List (List TClocksOutcome)) × TView × Int × (List TVerb) × Int × Unit) ⊕ (((List (List TClocksOutcome)) × (List TVerb) × Unit))) :=
  bif (decide (i_17 < (v_8.2.1.length : Int))) then
    bif (decide ((0:Int) ≤ i_17) && decide (i_17 < (v_8.2.1.length : Int))) then
      Option.bind (bodegaref1_LeaseAt k client_0) fun r4 =>
      Option.bind (bodegaref9_put k v_8 (v_8.2.1.getD (i_17.toNat) ((0:Int), (0:Int), false, ())) r4.1 [w_13]) fun r5 =>
      bif (decide (l_16.length + [r5.1].length < 1073741824)) then
        some (.inl (client_0, got_4, v_8, w_13, (l_16 ++ [r5.1]), (IntKind.i64.wrap (i_17 + (1:Int))), ()))
      else none
    else none
  else
    some (.inr (got_4, l_16, ()))
noncomputable def bodegaref9_Renew_L1_it (k : Nat) (client_0 : Int) (got_4 : (List (List TClocksOutcome))) (v_8 : TView) (w_13 : Int) (l_16 : (List TVerb)) (i_17 : Int) : Option (((List (List TClocksOutcome)) × (List TVerb) × Unit)) :=
  iterO (fun s : Int × (List (List TClocksOutcome)) × TView × Int × (List TVerb) × Int × Unit => bodegaref9_Renew_L1 k s.1 s.2.1 s.2.2.1 s.2.2.2.1 s.2.2.2.2.1 s.2.2.2.2.2.1) k (client_0, got_4, v_8, w_13, l_16, i_17, ())
noncomputable def bodegaref9_Renew (k : Nat) (client_0 : Int) (inc_1 : Int) (until_2 : Int) (v_3 : TView) (got_4 : (List (List TClocksOutcome))) : Option ((List TVerb) × Int × Bool × Unit) :=
  Option.bind (bodegaref1_Client k client_0) fun r1 =>
  bif (!r1.1) then
    some (([] : (List TVerb)), (1:Int), true, ())
  else
    Option.bind (bodegaref1_Lease k inc_1 until_2) fun r2 =>
    bif (!(decide (r2.2.1 = (0:Int)))) then
      some (([] : (List TVerb)), r2.2.1, true, ())
    else
      Option.bind (bodegaref9_ValidView k v_3 (5:Int)) fun r3 =>
      bif (!(decide (r3.1 = (0:Int)))) then
        some (([] : (List TVerb)), r3.1, true, ())
      else
        Option.bind (bodegaref9_Renew_L1_it k client_0 got_4 v_3 r2.1 ([] : (List TVerb)) (0:Int)) fun o6 =>
        Option.bind (bodegaref9_single k o6.2.1 o6.1) fun r7 =>
        bif r7.2.1 then
          some (o6.2.1, (0:Int), false, ())
        else
          bif (!r7.2.2.1) then
            some (([] : (List TVerb)), (6:Int), true, ())
          else
            Option.bind (bodegaref4_First k r7.1) fun r8 =>
            some (([] : (List TVerb)), r8.1, true, ())
def bodegaref9_Renew_sig : Sig := ⟨[⟨false, (.int .i64), .s, .s⟩, ⟨false, (.int .i64), .s, .s⟩, ⟨false, (.int .i64), .s, .s⟩, ⟨false, y3, .s, .s⟩, ⟨false, (.list (.list y4)), .s, .s⟩], [((.list y2), .s), ((.int .i64), .s), (.bool, .s)]⟩
noncomputable def bodegaref9_Renew_te (k : Nat) : TE := ⟨bodegaref9_Renew_sig, fun s => bodegaref9_Renew k s.1 s.2.1 s.2.2.1 s.2.2.2.1 s.2.2.2.2.1⟩
noncomputable def bodegaref9_Renew_C (k : Nat) : Ctx := cx [(32, bodegaref1_Client_te k), (33, bodegaref1_Lease_te k), (34, bodegaref9_ValidView_te k), (35, bodegaref9_put_te k), (36, bodegaref1_LeaseAt_te k), (37, bodegaref9_single_te k), (38, bodegaref4_First_te k)] [] []
noncomputable def bodegaref9_Renew_code : Code := Tryz.f10.body.getD .skip
theorem bodegaref9_Renew_tab (k : Nat) : TabOk Tryz.prog (bodegaref9_Renew_C k) := ⟨tab_cons (bodegaref1_Client_ok k) (tab_cons (bodegaref1_Lease_ok k) (tab_cons (bodegaref9_ValidView_ok k) (tab_cons (bodegaref9_put_ok k) (tab_cons (bodegaref1_LeaseAt_ok k) (tab_cons (bodegaref9_single_ok k) (tab_cons (bodegaref4_First_ok k) (tab_nil))))))), lay_nil⟩
noncomputable def bodegaref9_Renew_ac (k : Nat) : AC := (.sq .rg (.sq (.sq .rg (.cd (.sq .rg .nx) .nx)) (.sq .rg (.sq (.sq .rg (.cd (.sq .rg .nx) .nx)) (.sq (.sq .rg (.sq .rg (.cd (.sq .rg .nx) .nx))) (.sq .rg (.sq (.sq .rg (.bk (.lp [(0, .va (.int .i64) .s), (4, .va (.list (.list y4)) .s), (8, .bo y3 .s), (13, .va (.int .u64) .s), (16, .va (.list y2) (.o .s)), (17, .va (.int .i64) .s)] [(.exit 0, [(4, .va (.list (.list y4)) .s), (16, .va (.list y2) (.o .s))])] (fun s => bodegaref9_Renew_L1 k s.1 s.2.1 s.2.2.1 s.2.2.2.1 s.2.2.2.2.1 s.2.2.2.2.2.1) (.sq (.sq .rg (.cd .nx .nx)) (.sq (.bk .rg) .rg))))) (.sq .rg (.sq (.bk (.sq .rg (.cd (.sq .rg .nx) (.sq .rg (.cd (.sq .rg .nx) .nx))))) (.sq .rg .nx))))))))))
theorem bodegaref9_Renew_fix (k : Nat) : acFix (bodegaref9_Renew_C k) k 74 (bodegaref9_Renew_ac k) bodegaref9_Renew_code = bodegaref9_Renew_ac k := by kernel_rfl
theorem bodegaref9_Renew_eq (k : Nat) (s : bodegaref9_Renew_sig.S) : fnEv (bodegaref9_Renew_C k) k bodegaref9_Renew_sig Tryz.f10 bodegaref9_Renew_code (bodegaref9_Renew_ac k) s = (bodegaref9_Renew_te k).F s := by kernel_rfl
theorem bodegaref9_Renew_ok (k : Nat) : CallOk Tryz.prog 10 (bodegaref9_Renew_te k) :=
  fn_ok (C := bodegaref9_Renew_C k) (code := bodegaref9_Renew_code) (g := bodegaref9_Renew_sig) (k := k) (Fn := (bodegaref9_Renew_te k).F) mixed (tysOk _ _ _) (eqsOk _ _ _) (bodegaref9_Renew_tab k) Tryz.func10 (by kernel_rfl) (by kernel_rfl) (of_decide_eq_true (by kernel_rfl)) (by kernel_rfl) (by kernel_rfl) (by kernel_rfl)
    (fun s q h => ⟨bodegaref9_Renew_ac k, ok_of_fix _ _ (bodegaref9_Renew_fix k), (bodegaref9_Renew_eq k s).trans h⟩)

/-! #### bodega/bodegaref1.SameWords -/
noncomputable def bodegaref1_SameWords_L1 (_k : Nat) (a_0 : (List Int)) (b_1 : (List Int)) (i_5 : Int) : Option (((List Int) × (List Int) × Int × Unit) ⊕ ((Bool × Unit) ⊕ (Unit))) :=
  bif (decide (i_5 < (a_0.length : Int))) then
    bif (decide ((0:Int) ≤ i_5) && decide (i_5 < (a_0.length : Int))) then
      bif (decide ((0:Int) ≤ i_5) && decide (i_5 < (b_1.length : Int))) then
        bif (!(decide ((a_0.getD (i_5.toNat) (0:Int)) = (b_1.getD (i_5.toNat) (0:Int))))) then
          some (.inr (.inl (false, ())))
        else
          some (.inl (a_0, b_1, (IntKind.i64.wrap (i_5 + (1:Int))), ()))
      else none
    else none
  else
    some (.inr (.inr ()))
noncomputable def bodegaref1_SameWords_L1_it (k : Nat) (a_0 : (List Int)) (b_1 : (List Int)) (i_5 : Int) : Option ((Bool × Unit) ⊕ (Unit)) :=
  iterO (fun s : (List Int) × (List Int) × Int × Unit => bodegaref1_SameWords_L1 k s.1 s.2.1 s.2.2.1) k (a_0, b_1, i_5, ())
noncomputable def bodegaref1_SameWords (k : Nat) (a_0 : (List Int)) (b_1 : (List Int)) : Option (Bool × Unit) :=
  bif (!(decide ((a_0.length : Int) = (b_1.length : Int)))) then
    some (false, ())
  else
    Option.bind (bodegaref1_SameWords_L1_it k a_0 b_1 (0:Int)) fun o1 =>
    Sum.elim (fun o2 =>
      some (o2.1, ())) (fun _o3 =>
      some (true, ())) o1
def bodegaref1_SameWords_sig : Sig := ⟨[⟨false, (.list (.int .u64)), .s, .s⟩, ⟨false, (.list (.int .u64)), .s, .s⟩], [(.bool, .s)]⟩
noncomputable def bodegaref1_SameWords_te (k : Nat) : TE := ⟨bodegaref1_SameWords_sig, fun s => bodegaref1_SameWords k s.1 s.2.1⟩
noncomputable def bodegaref1_SameWords_C (_k : Nat) : Ctx := cx [] [] []
noncomputable def bodegaref1_SameWords_code : Code := Tryz.f17.body.getD .skip
theorem bodegaref1_SameWords_tab (k : Nat) : TabOk Tryz.prog (bodegaref1_SameWords_C k) := ⟨tab_nil, lay_nil⟩
noncomputable def bodegaref1_SameWords_ac (k : Nat) : AC := (.sq .rg (.sq (.sq .rg (.cd (.sq .rg .nx) .nx)) (.sq (.sq .rg (.bk (.lp [(0, .va (.list (.int .u64)) .s), (1, .va (.list (.int .u64)) .s), (5, .va (.int .i64) .s)] [(.ret, [(4, .va .bool .s)]), (.exit 0, [])] (fun s => bodegaref1_SameWords_L1 k s.1 s.2.1 s.2.2.1) (.sq (.sq .rg (.cd .nx .nx)) (.sq (.bk (.sq .rg (.cd (.sq .rg .nx) .nx))) .rg))))) (.sq .rg .nx))))
theorem bodegaref1_SameWords_fix (k : Nat) : acFix (bodegaref1_SameWords_C k) k 26 (bodegaref1_SameWords_ac k) bodegaref1_SameWords_code = bodegaref1_SameWords_ac k := by kernel_rfl
theorem bodegaref1_SameWords_eq (k : Nat) (s : bodegaref1_SameWords_sig.S) : fnEv (bodegaref1_SameWords_C k) k bodegaref1_SameWords_sig Tryz.f17 bodegaref1_SameWords_code (bodegaref1_SameWords_ac k) s = (bodegaref1_SameWords_te k).F s := by kernel_rfl
theorem bodegaref1_SameWords_ok (k : Nat) : CallOk Tryz.prog 17 (bodegaref1_SameWords_te k) :=
  fn_ok (C := bodegaref1_SameWords_C k) (code := bodegaref1_SameWords_code) (g := bodegaref1_SameWords_sig) (k := k) (Fn := (bodegaref1_SameWords_te k).F) mixed (tysOk _ _ _) (eqsOk _ _ _) (bodegaref1_SameWords_tab k) Tryz.func17 (by kernel_rfl) (by kernel_rfl) (of_decide_eq_true (by kernel_rfl)) (by kernel_rfl) (by kernel_rfl) (by kernel_rfl)
    (fun s q h => ⟨bodegaref1_SameWords_ac k, ok_of_fix _ _ (bodegaref1_SameWords_fix k), (bodegaref1_SameWords_eq k s).trans h⟩)

/-! #### bodega/bodegaref4.Same -/
noncomputable def bodegaref4_Same (k : Nat) (a_0 : TVerb) (b_1 : TVerb) : Option (Bool × Unit) :=
  bif (bif (bif (bif (bif (!(decide (a_0.1 = b_1.1))) then true else (!(decide (a_0.2.1 = b_1.2.1)))) then true else (!(decide (a_0.2.2.1 = b_1.2.2.1)))) then true else (!(decide (a_0.2.2.2.2.2.2.2.1 = b_1.2.2.2.2.2.2.2.1)))) then true else (!(decide (a_0.2.2.2.2.2.2.2.2.1 = b_1.2.2.2.2.2.2.2.2.1)))) then
    some (false, ())
  else
    bif (decide (a_0.1 = (1:Int))) then
      some ((decide (a_0.2.2.2.1 = b_1.2.2.2.1)), ())
    else
      bif (decide (a_0.1 = (2:Int))) then
        Option.bind (bodegaref1_SameWords k a_0.2.2.2.2.2.2.1 b_1.2.2.2.2.2.2.1) fun r1 =>
        some (r1.1, ())
      else
        bif (decide (a_0.1 = (3:Int))) then
          some ((bif (decide (a_0.2.2.2.2.1 = b_1.2.2.2.2.1)) then (decide (a_0.2.2.2.2.2.1 = b_1.2.2.2.2.2.1)) else false), ())
        else
          bif (decide (a_0.1 = (4:Int))) then
            some ((decide (a_0.2.2.2.2.2.1 = b_1.2.2.2.2.2.1)), ())
          else
            Option.bind (bif (bif (bif (decide (a_0.2.2.2.1 = b_1.2.2.2.1)) then (decide (a_0.2.2.2.2.1 = b_1.2.2.2.2.1)) else false) then (decide (a_0.2.2.2.2.2.1 = b_1.2.2.2.2.2.1)) else false) then bodegaref1_SameWords k a_0.2.2.2.2.2.2.1 b_1.2.2.2.2.2.2.1 else some (false, ())) fun r2 =>
            some ((bif (bif (bif (decide (a_0.2.2.2.1 = b_1.2.2.2.1)) then (decide (a_0.2.2.2.2.1 = b_1.2.2.2.2.1)) else false) then (decide (a_0.2.2.2.2.2.1 = b_1.2.2.2.2.2.1)) else false) then r2.1 else false), ())
def bodegaref4_Same_sig : Sig := ⟨[⟨false, y2, .s, .s⟩, ⟨false, y2, .s, .s⟩], [(.bool, .s)]⟩
noncomputable def bodegaref4_Same_te (k : Nat) : TE := ⟨bodegaref4_Same_sig, fun s => bodegaref4_Same k s.1 s.2.1⟩
noncomputable def bodegaref4_Same_C (k : Nat) : Ctx := cx [(17, bodegaref1_SameWords_te k)] [] []
noncomputable def bodegaref4_Same_code : Code := Tryz.f39.body.getD .skip
theorem bodegaref4_Same_tab (k : Nat) : TabOk Tryz.prog (bodegaref4_Same_C k) := ⟨tab_cons (bodegaref1_SameWords_ok k) (tab_nil), lay_nil⟩
noncomputable def bodegaref4_Same_ac (_k : Nat) : AC := (.sq .rg (.sq (.sq .rg (.cd (.sq .rg .nx) .nx)) (.sq (.sq .rg (.bk (.sq .rg (.cd (.sq .rg .nx) (.sq .rg (.cd (.sq .rg .nx) (.sq .rg (.cd (.sq .rg .nx) (.sq .rg (.cd (.sq .rg .nx) .nx)))))))))) (.sq .rg .nx))))
theorem bodegaref4_Same_fix (k : Nat) : acFix (bodegaref4_Same_C k) k 101 (bodegaref4_Same_ac k) bodegaref4_Same_code = bodegaref4_Same_ac k := by kernel_rfl
theorem bodegaref4_Same_eq (k : Nat) (s : bodegaref4_Same_sig.S) : fnEv (bodegaref4_Same_C k) k bodegaref4_Same_sig Tryz.f39 bodegaref4_Same_code (bodegaref4_Same_ac k) s = (bodegaref4_Same_te k).F s := by kernel_rfl
theorem bodegaref4_Same_ok (k : Nat) : CallOk Tryz.prog 39 (bodegaref4_Same_te k) :=
  fn_ok (C := bodegaref4_Same_C k) (code := bodegaref4_Same_code) (g := bodegaref4_Same_sig) (k := k) (Fn := (bodegaref4_Same_te k).F) mixed (tysOk _ _ _) (eqsOk _ _ _) (bodegaref4_Same_tab k) Tryz.func39 (by kernel_rfl) (by kernel_rfl) (of_decide_eq_true (by kernel_rfl)) (by kernel_rfl) (by kernel_rfl) (by kernel_rfl)
    (fun s q h => ⟨bodegaref4_Same_ac k, ok_of_fix _ _ (bodegaref4_Same_fix k), (bodegaref4_Same_eq k s).trans h⟩)

end Go.Proofs.YtkgjdglkkoabmaaGreat.N
