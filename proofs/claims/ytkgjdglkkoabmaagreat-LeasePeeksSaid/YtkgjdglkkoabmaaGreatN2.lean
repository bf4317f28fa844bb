import Derived.Test.YtkgjdglkkoabmaaGreatN1

set_option maxRecDepth 1000000
namespace Go.Proofs.YtkgjdglkkoabmaaGreat.N
open Go.VL Go.Proofs

/-! #### bodega/bodegaref4.SameAll -/
noncomputable def bodegaref4_SameAll_L1 (k : Nat) (a_0 : (List TVerb)) (b_1 : (List TVerb)) (i_5 : Int) : Option (((List TVerb) × (List TVerb) × Int × Unit) ⊕ ((Bool × Unit) ⊕ (Unit))) :=
  bif (decide (i_5 < (a_0.length : Int))) then
    bif (decide ((0:Int) ≤ i_5) && decide (i_5 < (a_0.length : Int))) then
      bif (decide ((0:Int) ≤ i_5) && decide (i_5 < (b_1.length : Int))) then
        Option.bind (bodegaref4_Same k (a_0.getD (i_5.toNat) ((0:Int), (0:Int), (0:Int), (0:Int), (0:Int), (0:Int), ([] : (List Int)), (0:Int), (0:Int), ())) (b_1.getD (i_5.toNat) ((0:Int), (0:Int), (0:Int), (0:Int), (0:Int), (0:Int), ([] : (List Int)), (0:Int), (0:Int), ()))) fun r1 =>
        bif (!r1.1) then
          some (.inr (.inl (false, ())))
        else
          some (.inl (a_0, b_1, (IntKind.i64.wrap (i_5 + (1:Int))), ()))
      else none
    else none
  else
    some (.inr (.inr ()))
noncomputable def bodegaref4_SameAll_L1_it (k : Nat) (a_0 : (List TVerb)) (b_1 : (List TVerb)) (i_5 : Int) : Option ((Bool × Unit) ⊕ (Unit)) :=
  iterO (fun s : (List TVerb) × (List TVerb) × Int × Unit => bodegaref4_SameAll_L1 k s.1 s.2.1 s.2.2.1) k (a_0, b_1, i_5, ())
noncomputable def bodegaref4_SameAll (k : Nat) (a_0 : (List TVerb)) (b_1 : (List TVerb)) : Option (Bool × Unit) :=
  bif (!(decide ((a_0.length : Int) = (b_1.length : Int)))) then
    some (false, ())
  else
    Option.bind (bodegaref4_SameAll_L1_it k a_0 b_1 (0:Int)) fun o2 =>
    Sum.elim (fun o3 =>
      some (o3.1, ())) (fun _o4 =>
      some (true, ())) o2
def bodegaref4_SameAll_sig : Sig := ⟨[⟨false, (.list y2), .s, .s⟩, ⟨false, (.list y2), .s, .s⟩], [(.bool, .s)]⟩
noncomputable def bodegaref4_SameAll_te (k : Nat) : TE := ⟨bodegaref4_SameAll_sig, fun s => bodegaref4_SameAll k s.1 s.2.1⟩
noncomputable def bodegaref4_SameAll_C (k : Nat) : Ctx := cx [(39, bodegaref4_Same_te k)] [] []
noncomputable def bodegaref4_SameAll_code : Code := Tryz.f11.body.getD .skip
theorem bodegaref4_SameAll_tab (k : Nat) : TabOk Tryz.prog (bodegaref4_SameAll_C k) := ⟨tab_cons (bodegaref4_Same_ok k) (tab_nil), lay_nil⟩
noncomputable def bodegaref4_SameAll_ac (k : Nat) : AC := (.sq .rg (.sq (.sq .rg (.cd (.sq .rg .nx) .nx)) (.sq (.sq .rg (.bk (.lp [(0, .va (.list y2) .s), (1, .va (.list y2) .s), (5, .va (.int .i64) .s)] [(.ret, [(4, .va .bool .s)]), (.exit 0, [])] (fun s => bodegaref4_SameAll_L1 k s.1 s.2.1 s.2.2.1) (.sq (.sq .rg (.cd .nx .nx)) (.sq (.bk (.sq .rg (.cd (.sq .rg .nx) .nx))) .rg))))) (.sq .rg .nx))))
theorem bodegaref4_SameAll_fix (k : Nat) : acFix (bodegaref4_SameAll_C k) k 27 (bodegaref4_SameAll_ac k) bodegaref4_SameAll_code = bodegaref4_SameAll_ac k := by kernel_rfl
theorem bodegaref4_SameAll_eq (k : Nat) (s : bodegaref4_SameAll_sig.S) : fnEv (bodegaref4_SameAll_C k) k bodegaref4_SameAll_sig Tryz.f11 bodegaref4_SameAll_code (bodegaref4_SameAll_ac k) s = (bodegaref4_SameAll_te k).F s := by kernel_rfl
theorem bodegaref4_SameAll_ok (k : Nat) : CallOk Tryz.prog 11 (bodegaref4_SameAll_te k) :=
  fn_ok (C := bodegaref4_SameAll_C k) (code := bodegaref4_SameAll_code) (g := bodegaref4_SameAll_sig) (k := k) (Fn := (bodegaref4_SameAll_te k).F) mixed (tysOk _ _ _) (eqsOk _ _ _) (bodegaref4_SameAll_tab k) Tryz.func11 (by kernel_rfl) (by kernel_rfl) (of_decide_eq_true (by kernel_rfl)) (by kernel_rfl) (by kernel_rfl) (by kernel_rfl)
    (fun s q h => ⟨bodegaref4_SameAll_ac k, ok_of_fix _ _ (bodegaref4_SameAll_fix k), (bodegaref4_SameAll_eq k s).trans h⟩)

/-! #### bodega/lease.Expired -/
noncomputable def lease_Expired (_k : Nat) (h_0 : THolding) (now_1 : Int) : Option (Bool × Unit) :=
  some ((bif (decide (h_0.1 = (0:Int))) then true else (decide (h_0.2.1 < now_1))), ())
def lease_Expired_sig : Sig := ⟨[⟨false, y7, .s, .s⟩, ⟨false, (.int .i64), .s, .s⟩], [(.bool, .s)]⟩
noncomputable def lease_Expired_te (k : Nat) : TE := ⟨lease_Expired_sig, fun s => lease_Expired k s.1 s.2.1⟩
noncomputable def lease_Expired_C (_k : Nat) : Ctx := cx [] [] []
noncomputable def lease_Expired_code : Code := Tryz.f24.body.getD .skip
theorem lease_Expired_tab (k : Nat) : TabOk Tryz.prog (lease_Expired_C k) := ⟨tab_nil, lay_nil⟩
noncomputable def lease_Expired_ac (_k : Nat) : AC := (.sq .rg (.sq .rg .nx))
theorem lease_Expired_fix (k : Nat) : acFix (lease_Expired_C k) k 14 (lease_Expired_ac k) lease_Expired_code = lease_Expired_ac k := by kernel_rfl
theorem lease_Expired_eq (k : Nat) (s : lease_Expired_sig.S) : fnEv (lease_Expired_C k) k lease_Expired_sig Tryz.f24 lease_Expired_code (lease_Expired_ac k) s = (lease_Expired_te k).F s := by kernel_rfl
theorem lease_Expired_ok (k : Nat) : CallOk Tryz.prog 24 (lease_Expired_te k) :=
  fn_ok (C := lease_Expired_C k) (code := lease_Expired_code) (g := lease_Expired_sig) (k := k) (Fn := (lease_Expired_te k).F) mixed (tysOk _ _ _) (eqsOk _ _ _) (lease_Expired_tab k) Tryz.func24 (by kernel_rfl) (by kernel_rfl) (of_decide_eq_true (by kernel_rfl)) (by kernel_rfl) (by kernel_rfl) (by kernel_rfl)
    (fun s q h => ⟨lease_Expired_ac k, ok_of_fix _ _ (lease_Expired_fix k), (lease_Expired_eq k s).trans h⟩)

/-! #### bodega/bodegalaw15.awake -/
noncomputable def bodegalaw15_awake (k : Nat)  : Option (Bool × Unit) :=
  Option.bind (bodegahand_Start k (1:Int)) fun r1 =>
  Option.bind (lease_Renew k ((1:Int), (1:Int), (9:Int), r1.1, ()) ([] : (List (List TClocksOutcome)))) fun r2 =>
  bif ((decide ((0:Int) ≤ (0:Int)) && decide ((0:Int) < (r2.1.length : Int))) || (!(bif (!r2.2.2.1) then (decide ((r2.1.length : Int) = (1:Int))) else false))) then
    bif ((decide ((0:Int) ≤ (0:Int)) && decide ((0:Int) < (r2.1.length : Int))) || (!(bif (bif (!r2.2.2.1) then (decide ((r2.1.length : Int) = (1:Int))) else false) then (decide ((r2.1.getD 0 ((0:Int), (0:Int), (0:Int), (0:Int), (0:Int), (0:Int), ([] : (List Int)), (0:Int), (0:Int), ())).1 = (2:Int))) else false))) then
      bif ((decide ((0:Int) ≤ (0:Int)) && decide ((0:Int) < (r2.1.length : Int))) || (!(bif (bif (bif (!r2.2.2.1) then (decide ((r2.1.length : Int) = (1:Int))) else false) then (decide ((r2.1.getD 0 ((0:Int), (0:Int), (0:Int), (0:Int), (0:Int), (0:Int), ([] : (List Int)), (0:Int), (0:Int), ())).1 = (2:Int))) else false) then (decide ((r2.1.getD 0 ((0:Int), (0:Int), (0:Int), (0:Int), (0:Int), (0:Int), ([] : (List Int)), (0:Int), (0:Int), ())).2.2.1 = (41:Int))) else false))) then
        bif ((decide ((0:Int) ≤ (0:Int)) && decide ((0:Int) < (r2.1.length : Int))) || (!(bif (bif (bif (bif (!r2.2.2.1) then (decide ((r2.1.length : Int) = (1:Int))) else false) then (decide ((r2.1.getD 0 ((0:Int), (0:Int), (0:Int), (0:Int), (0:Int), (0:Int), ([] : (List Int)), (0:Int), (0:Int), ())).1 = (2:Int))) else false) then (decide ((r2.1.getD 0 ((0:Int), (0:Int), (0:Int), (0:Int), (0:Int), (0:Int), ([] : (List Int)), (0:Int), (0:Int), ())).2.2.1 = (41:Int))) else false) then (decide (((r2.1.getD 0 ((0:Int), (0:Int), (0:Int), (0:Int), (0:Int), (0:Int), ([] : (List Int)), (0:Int), (0:Int), ())).2.2.2.2.2.2.1.length : Int) = (1:Int))) else false))) then
          bif ((decide ((0:Int) ≤ (0:Int)) && decide ((0:Int) < ((r2.1.getD 0 ((0:Int), (0:Int), (0:Int), (0:Int), (0:Int), (0:Int), ([] : (List Int)), (0:Int), (0:Int), ())).2.2.2.2.2.2.1.length : Int))) || (!(bif (bif (bif (bif (!r2.2.2.1) then (decide ((r2.1.length : Int) = (1:Int))) else false) then (decide ((r2.1.getD 0 ((0:Int), (0:Int), (0:Int), (0:Int), (0:Int), (0:Int), ([] : (List Int)), (0:Int), (0:Int), ())).1 = (2:Int))) else false) then (decide ((r2.1.getD 0 ((0:Int), (0:Int), (0:Int), (0:Int), (0:Int), (0:Int), ([] : (List Int)), (0:Int), (0:Int), ())).2.2.1 = (41:Int))) else false) then (decide (((r2.1.getD 0 ((0:Int), (0:Int), (0:Int), (0:Int), (0:Int), (0:Int), ([] : (List Int)), (0:Int), (0:Int), ())).2.2.2.2.2.2.1.length : Int) = (1:Int))) else false))) then
            bif ((decide ((0:Int) ≤ (0:Int)) && decide ((0:Int) < (r2.1.length : Int))) || (!(bif (bif (bif (bif (bif (!r2.2.2.1) then (decide ((r2.1.length : Int) = (1:Int))) else false) then (decide ((r2.1.getD 0 ((0:Int), (0:Int), (0:Int), (0:Int), (0:Int), (0:Int), ([] : (List Int)), (0:Int), (0:Int), ())).1 = (2:Int))) else false) then (decide ((r2.1.getD 0 ((0:Int), (0:Int), (0:Int), (0:Int), (0:Int), (0:Int), ([] : (List Int)), (0:Int), (0:Int), ())).2.2.1 = (41:Int))) else false) then (decide (((r2.1.getD 0 ((0:Int), (0:Int), (0:Int), (0:Int), (0:Int), (0:Int), ([] : (List Int)), (0:Int), (0:Int), ())).2.2.2.2.2.2.1.length : Int) = (1:Int))) else false) then (decide (((r2.1.getD 0 ((0:Int), (0:Int), (0:Int), (0:Int), (0:Int), (0:Int), ([] : (List Int)), (0:Int), (0:Int), ())).2.2.2.2.2.2.1.getD 0 (0:Int)) = (4294967305:Int))) else false))) then
              bif ((decide ((0:Int) ≤ (0:Int)) && decide ((0:Int) < (r2.1.length : Int))) || (!(bif (bif (bif (bif (bif (bif (!r2.2.2.1) then (decide ((r2.1.length : Int) = (1:Int))) else false) then (decide ((r2.1.getD 0 ((0:Int), (0:Int), (0:Int), (0:Int), (0:Int), (0:Int), ([] : (List Int)), (0:Int), (0:Int), ())).1 = (2:Int))) else false) then (decide ((r2.1.getD 0 ((0:Int), (0:Int), (0:Int), (0:Int), (0:Int), (0:Int), ([] : (List Int)), (0:Int), (0:Int), ())).2.2.1 = (41:Int))) else false) then (decide (((r2.1.getD 0 ((0:Int), (0:Int), (0:Int), (0:Int), (0:Int), (0:Int), ([] : (List Int)), (0:Int), (0:Int), ())).2.2.2.2.2.2.1.length : Int) = (1:Int))) else false) then (decide (((r2.1.getD 0 ((0:Int), (0:Int), (0:Int), (0:Int), (0:Int), (0:Int), ([] : (List Int)), (0:Int), (0:Int), ())).2.2.2.2.2.2.1.getD 0 (0:Int)) = (4294967305:Int))) else false) then (decide ((r2.1.getD 0 ((0:Int), (0:Int), (0:Int), (0:Int), (0:Int), (0:Int), ([] : (List Int)), (0:Int), (0:Int), ())).2.2.2.2.2.2.2.1 = (1:Int))) else false))) then
                Option.bind (bif (bif (bif (bif (bif (bif (bif (bif (!r2.2.2.1) then (decide ((r2.1.length : Int) = (1:Int))) else false) then (decide ((r2.1.getD 0 ((0:Int), (0:Int), (0:Int), (0:Int), (0:Int), (0:Int), ([] : (List Int)), (0:Int), (0:Int), ())).1 = (2:Int))) else false) then (decide ((r2.1.getD 0 ((0:Int), (0:Int), (0:Int), (0:Int), (0:Int), (0:Int), ([] : (List Int)), (0:Int), (0:Int), ())).2.2.1 = (41:Int))) else false) then (decide (((r2.1.getD 0 ((0:Int), (0:Int), (0:Int), (0:Int), (0:Int), (0:Int), ([] : (List Int)), (0:Int), (0:Int), ())).2.2.2.2.2.2.1.length : Int) = (1:Int))) else false) then (decide (((r2.1.getD 0 ((0:Int), (0:Int), (0:Int), (0:Int), (0:Int), (0:Int), ([] : (List Int)), (0:Int), (0:Int), ())).2.2.2.2.2.2.1.getD 0 (0:Int)) = (4294967305:Int))) else false) then (decide ((r2.1.getD 0 ((0:Int), (0:Int), (0:Int), (0:Int), (0:Int), (0:Int), ([] : (List Int)), (0:Int), (0:Int), ())).2.2.2.2.2.2.2.1 = (1:Int))) else false) then (decide ((r2.1.getD 0 ((0:Int), (0:Int), (0:Int), (0:Int), (0:Int), (0:Int), ([] : (List Int)), (0:Int), (0:Int), ())).2.2.2.2.2.2.2.2.1 = (1:Int))) else false) then lease_Expired k ((1:Int), (5:Int), ()) (6:Int) else some (false, ())) fun r3 =>
                Option.bind (bif (bif (bif (bif (bif (bif (bif (bif (bif (!r2.2.2.1) then (decide ((r2.1.length : Int) = (1:Int))) else false) then (decide ((r2.1.getD 0 ((0:Int), (0:Int), (0:Int), (0:Int), (0:Int), (0:Int), ([] : (List Int)), (0:Int), (0:Int), ())).1 = (2:Int))) else false) then (decide ((r2.1.getD 0 ((0:Int), (0:Int), (0:Int), (0:Int), (0:Int), (0:Int), ([] : (List Int)), (0:Int), (0:Int), ())).2.2.1 = (41:Int))) else false) then (decide (((r2.1.getD 0 ((0:Int), (0:Int), (0:Int), (0:Int), (0:Int), (0:Int), ([] : (List Int)), (0:Int), (0:Int), ())).2.2.2.2.2.2.1.length : Int) = (1:Int))) else false) then (decide (((r2.1.getD 0 ((0:Int), (0:Int), (0:Int), (0:Int), (0:Int), (0:Int), ([] : (List Int)), (0:Int), (0:Int), ())).2.2.2.2.2.2.1.getD 0 (0:Int)) = (4294967305:Int))) else false) then (decide ((r2.1.getD 0 ((0:Int), (0:Int), (0:Int), (0:Int), (0:Int), (0:Int), ([] : (List Int)), (0:Int), (0:Int), ())).2.2.2.2.2.2.2.1 = (1:Int))) else false) then (decide ((r2.1.getD 0 ((0:Int), (0:Int), (0:Int), (0:Int), (0:Int), (0:Int), ([] : (List Int)), (0:Int), (0:Int), ())).2.2.2.2.2.2.2.2.1 = (1:Int))) else false) then r3.1 else false) then lease_Expired k ((1:Int), (5:Int), ()) (5:Int) else some (false, ())) fun r4 =>
                some ((bif (bif (bif (bif (bif (bif (bif (bif (bif (!r2.2.2.1) then (decide ((r2.1.length : Int) = (1:Int))) else false) then (decide ((r2.1.getD 0 ((0:Int), (0:Int), (0:Int), (0:Int), (0:Int), (0:Int), ([] : (List Int)), (0:Int), (0:Int), ())).1 = (2:Int))) else false) then (decide ((r2.1.getD 0 ((0:Int), (0:Int), (0:Int), (0:Int), (0:Int), (0:Int), ([] : (List Int)), (0:Int), (0:Int), ())).2.2.1 = (41:Int))) else false) then (decide (((r2.1.getD 0 ((0:Int), (0:Int), (0:Int), (0:Int), (0:Int), (0:Int), ([] : (List Int)), (0:Int), (0:Int), ())).2.2.2.2.2.2.1.length : Int) = (1:Int))) else false) then (decide (((r2.1.getD 0 ((0:Int), (0:Int), (0:Int), (0:Int), (0:Int), (0:Int), ([] : (List Int)), (0:Int), (0:Int), ())).2.2.2.2.2.2.1.getD 0 (0:Int)) = (4294967305:Int))) else false) then (decide ((r2.1.getD 0 ((0:Int), (0:Int), (0:Int), (0:Int), (0:Int), (0:Int), ([] : (List Int)), (0:Int), (0:Int), ())).2.2.2.2.2.2.2.1 = (1:Int))) else false) then (decide ((r2.1.getD 0 ((0:Int), (0:Int), (0:Int), (0:Int), (0:Int), (0:Int), ([] : (List Int)), (0:Int), (0:Int), ())).2.2.2.2.2.2.2.2.1 = (1:Int))) else false) then r3.1 else false) then (!r4.1) else false), ())
              else none
            else none
          else none
        else none
      else none
    else none
  else none
def bodegalaw15_awake_sig : Sig := ⟨[], [(.bool, .s)]⟩
noncomputable def bodegalaw15_awake_te (k : Nat) : TE := ⟨bodegalaw15_awake_sig, fun _s => bodegalaw15_awake k ⟩
noncomputable def bodegalaw15_awake_C (k : Nat) : Ctx := cx [(9, lease_Renew_te k), (24, lease_Expired_te k), (40, bodegahand_Start_te k)] [] []
noncomputable def bodegalaw15_awake_code : Code := Tryz.f12.body.getD .skip
theorem bodegalaw15_awake_tab (k : Nat) : TabOk Tryz.prog (bodegalaw15_awake_C k) := ⟨tab_cons (lease_Renew_ok k) (tab_cons (lease_Expired_ok k) (tab_cons (bodegahand_Start_ok k) (tab_nil))), lay_nil⟩
noncomputable def bodegalaw15_awake_ac (_k : Nat) : AC := (.sq .rg (.sq .rg (.sq .rg .nx)))
theorem bodegalaw15_awake_fix (k : Nat) : acFix (bodegalaw15_awake_C k) k 72 (bodegalaw15_awake_ac k) bodegalaw15_awake_code = bodegalaw15_awake_ac k := by kernel_rfl
theorem bodegalaw15_awake_eq (k : Nat) (s : bodegalaw15_awake_sig.S) : fnEv (bodegalaw15_awake_C k) k bodegalaw15_awake_sig Tryz.f12 bodegalaw15_awake_code (bodegalaw15_awake_ac k) s = (bodegalaw15_awake_te k).F s := by kernel_rfl
theorem bodegalaw15_awake_ok (k : Nat) : CallOk Tryz.prog 12 (bodegalaw15_awake_te k) :=
  fn_ok (C := bodegalaw15_awake_C k) (code := bodegalaw15_awake_code) (g := bodegalaw15_awake_sig) (k := k) (Fn := (bodegalaw15_awake_te k).F) mixed (tysOk _ _ _) (eqsOk _ _ _) (bodegalaw15_awake_tab k) Tryz.func12 (by kernel_rfl) (by kernel_rfl) (of_decide_eq_true (by kernel_rfl)) (by kernel_rfl) (by kernel_rfl) (by kernel_rfl)
    (fun s q h => ⟨bodegalaw15_awake_ac k, ok_of_fix _ _ (bodegalaw15_awake_fix k), (bodegalaw15_awake_eq k s).trans h⟩)

/-! #### bodega/bodegaref6.NewNode -/
noncomputable def bodegaref6_NewNode (_k : Nat) (lines_0 : Int) : Option (TNode × Unit) :=
  bif (decide ((IntKind.i64.wrap (lines_0 * (8:Int))) = (IntKind.i64.wrap (lines_0 * (8:Int)))) && decide ((0:Int) ≤ (IntKind.i64.wrap (lines_0 * (8:Int)))) && decide ((IntKind.i64.wrap (lines_0 * (8:Int))) ≤ 1073741824)) then
    some (((List.replicate ((IntKind.i64.wrap (lines_0 * (8:Int))).toNat) (0:Int)), true, ()), ())
  else none
def bodegaref6_NewNode_sig : Sig := ⟨[⟨false, (.int .i64), .s, .s⟩], [(y10, (.p (.o .s) .s))]⟩
noncomputable def bodegaref6_NewNode_te (k : Nat) : TE := ⟨bodegaref6_NewNode_sig, fun s => bodegaref6_NewNode k s.1⟩
noncomputable def bodegaref6_NewNode_C (_k : Nat) : Ctx := cx [] [] []
noncomputable def bodegaref6_NewNode_code : Code := Tryz.f95.body.getD .skip
theorem bodegaref6_NewNode_tab (k : Nat) : TabOk Tryz.prog (bodegaref6_NewNode_C k) := ⟨tab_nil, lay_nil⟩
noncomputable def bodegaref6_NewNode_ac (_k : Nat) : AC := (.sq .rg (.sq .rg .nx))
theorem bodegaref6_NewNode_fix (k : Nat) : acFix (bodegaref6_NewNode_C k) k 7 (bodegaref6_NewNode_ac k) bodegaref6_NewNode_code = bodegaref6_NewNode_ac k := by kernel_rfl
theorem bodegaref6_NewNode_eq (k : Nat) (s : bodegaref6_NewNode_sig.S) : fnEv (bodegaref6_NewNode_C k) k bodegaref6_NewNode_sig Tryz.f95 bodegaref6_NewNode_code (bodegaref6_NewNode_ac k) s = (bodegaref6_NewNode_te k).F s := by kernel_rfl
theorem bodegaref6_NewNode_ok (k : Nat) : CallOk Tryz.prog 95 (bodegaref6_NewNode_te k) :=
  fn_ok (C := bodegaref6_NewNode_C k) (code := bodegaref6_NewNode_code) (g := bodegaref6_NewNode_sig) (k := k) (Fn := (bodegaref6_NewNode_te k).F) mixed (tysOk _ _ _) (eqsOk _ _ _) (bodegaref6_NewNode_tab k) Tryz.func95 (by kernel_rfl) (by kernel_rfl) (of_decide_eq_true (by kernel_rfl)) (by kernel_rfl) (by kernel_rfl) (by kernel_rfl)
    (fun s q h => ⟨bodegaref6_NewNode_ac k, ok_of_fix _ _ (bodegaref6_NewNode_fix k), (bodegaref6_NewNode_eq k s).trans h⟩)

/-! #### (*bodega/bodegaref6.Fabric).renew -/
noncomputable def bodegaref6_Fabric_renew_L1 (_k : Nat) (f_0 : TFabric) (c_1 : Int) (l_4 : (List TPair)) (i_5 : Int) : Option ((TFabric × Int × (List TPair) × Int × Unit) ⊕ ((TFabric × Int × (List TPair) × Unit))) :=
  bif (decide (i_5 < (f_0.2.1.length : Int))) then
    bif (decide ((0:Int) ≤ c_1) && decide (c_1 < (f_0.2.2.1.length : Int))) then
      bif (decide (l_4.length + [(c_1, (f_0.2.2.1.getD (c_1.toNat) (false, (0:Int), false, ([] : (List TClocksOutcome)), ([] : (List Bool)), (0:Int), (0:Int), ())).2.1, i_5, ([] : (List Tpending)), ())].length < 1073741824)) then
        some (.inl (f_0, c_1, (l_4 ++ [(c_1, (f_0.2.2.1.getD (c_1.toNat) (false, (0:Int), false, ([] : (List TClocksOutcome)), ([] : (List Bool)), (0:Int), (0:Int), ())).2.1, i_5, ([] : (List Tpending)), ())]), (IntKind.i64.wrap (i_5 + (1:Int))), ()))
      else none
    else none
  else
    some (.inr (f_0, c_1, l_4, ()))
noncomputable def bodegaref6_Fabric_renew_L1_it (k : Nat) (f_0 : TFabric) (c_1 : Int) (l_4 : (List TPair)) (i_5 : Int) : Option ((TFabric × Int × (List TPair) × Unit)) :=
  iterO (fun s : TFabric × Int × (List TPair) × Int × Unit => bodegaref6_Fabric_renew_L1 k s.1 s.2.1 s.2.2.1 s.2.2.2.1) k (f_0, c_1, l_4, i_5, ())
noncomputable def bodegaref6_Fabric_renew (k : Nat) (f_0 : TFabric) (c_1 : Int) : Option (TFabric × Unit) :=
  Option.bind (bodegaref6_Fabric_renew_L1_it k f_0 c_1 ([] : (List TPair)) (0:Int)) fun o1 =>
  bif (decide ((0:Int) ≤ o1.2.1) && decide (o1.2.1 < (o1.1.2.2.2.1.length : Int))) then
    some ((o1.1.1, o1.1.2.1, o1.1.2.2.1, (o1.1.2.2.2.1.set (o1.2.1.toNat) o1.2.2.1), o1.1.2.2.2.2), ())
  else none
def bodegaref6_Fabric_renew_sig : Sig := ⟨[⟨true, y1, q1, q1⟩, ⟨false, (.int .i64), .s, .s⟩], []⟩
noncomputable def bodegaref6_Fabric_renew_te (k : Nat) : TE := ⟨bodegaref6_Fabric_renew_sig, fun s => bodegaref6_Fabric_renew k s.1 s.2.1⟩
noncomputable def bodegaref6_Fabric_renew_C (_k : Nat) : Ctx := cx [] [] []
noncomputable def bodegaref6_Fabric_renew_code : Code := Tryz.f96.body.getD .skip
theorem bodegaref6_Fabric_renew_tab (k : Nat) : TabOk Tryz.prog (bodegaref6_Fabric_renew_C k) := ⟨tab_nil, lay_nil⟩
noncomputable def bodegaref6_Fabric_renew_ac (k : Nat) : AC := (.sq .rg (.sq (.sq .rg (.bk (.lp [(0, .bo y1 q1), (1, .va (.int .i64) .s), (4, .va (.list y8) (.o .s)), (5, .va (.int .i64) .s)] [(.exit 0, [(0, .bo y1 q1), (1, .va (.int .i64) .s), (4, .va (.list y8) (.o .s))])] (fun s => bodegaref6_Fabric_renew_L1 k s.1 s.2.1 s.2.2.1 s.2.2.2.1) (.sq (.sq .rg (.cd .nx .nx)) (.sq (.bk .rg) .rg))))) .rg))
theorem bodegaref6_Fabric_renew_fix (k : Nat) : acFix (bodegaref6_Fabric_renew_C k) k 36 (bodegaref6_Fabric_renew_ac k) bodegaref6_Fabric_renew_code = bodegaref6_Fabric_renew_ac k := by kernel_rfl
theorem bodegaref6_Fabric_renew_eq (k : Nat) (s : bodegaref6_Fabric_renew_sig.S) : fnEv (bodegaref6_Fabric_renew_C k) k bodegaref6_Fabric_renew_sig Tryz.f96 bodegaref6_Fabric_renew_code (bodegaref6_Fabric_renew_ac k) s = (bodegaref6_Fabric_renew_te k).F s := by kernel_rfl
theorem bodegaref6_Fabric_renew_ok (k : Nat) : CallOk Tryz.prog 96 (bodegaref6_Fabric_renew_te k) :=
  fn_ok (C := bodegaref6_Fabric_renew_C k) (code := bodegaref6_Fabric_renew_code) (g := bodegaref6_Fabric_renew_sig) (k := k) (Fn := (bodegaref6_Fabric_renew_te k).F) mixed (tysOk _ _ _) (eqsOk _ _ _) (bodegaref6_Fabric_renew_tab k) Tryz.func96 (by kernel_rfl) (by kernel_rfl) (of_decide_eq_true (by kernel_rfl)) (by kernel_rfl) (by kernel_rfl) (by kernel_rfl)
    (fun s q h => ⟨bodegaref6_Fabric_renew_ac k, ok_of_fix _ _ (bodegaref6_Fabric_renew_fix k), (bodegaref6_Fabric_renew_eq k s).trans h⟩)

/-! #### bodega/bodegaref6.New -/
noncomputable def bodegaref6_New_L1 (k : Nat) (nodes_0 : Int) (clients_1 : Int) (lines_2 : Int) (f_7 : TFabric) (i_8 : Int) : Option ((Int × Int × Int × TFabric × Int × Unit) ⊕ ((Int × TFabric × Unit))) :=
  bif (decide (i_8 < nodes_0)) then
    Option.bind (bodegaref6_NewNode k lines_2) fun r1 =>
    bif (decide (f_7.2.1.length + [r1.1].length < 1073741824)) then
      some (.inl (nodes_0, clients_1, lines_2, (f_7.1, (f_7.2.1 ++ [r1.1]), f_7.2.2), (IntKind.i64.wrap (i_8 + (1:Int))), ()))
    else none
  else
    some (.inr (clients_1, f_7, ()))
noncomputable def bodegaref6_New_L1_it (k : Nat) (nodes_0 : Int) (clients_1 : Int) (lines_2 : Int) (f_7 : TFabric) (i_8 : Int) : Option ((Int × TFabric × Unit)) :=
  iterO (fun s : Int × Int × Int × TFabric × Int × Unit => bodegaref6_New_L1 k s.1 s.2.1 s.2.2.1 s.2.2.2.1 s.2.2.2.2.1) k (nodes_0, clients_1, lines_2, f_7, i_8, ())
noncomputable def bodegaref6_New_L2 (k : Nat) (clients_1 : Int) (f_7 : TFabric) (c_9 : Int) : Option ((Int × TFabric × Int × Unit) ⊕ ((TFabric × Unit))) :=
  bif (decide (c_9 < clients_1)) then
    bif (decide (f_7.2.2.1.length + [(true, (1:Int), false, ([] : (List TClocksOutcome)), ([] : (List Bool)), (0:Int), (0:Int), ())].length < 1073741824)) then
      bif (decide (f_7.2.2.2.1.length + [([] : (List TPair))].length < 1073741824)) then
        let v3 := (f_7.1, f_7.2.1, (f_7.2.2.1 ++ [(true, (1:Int), false, ([] : (List TClocksOutcome)), ([] : (List Bool)), (0:Int), (0:Int), ())]), (f_7.2.2.2.1 ++ [([] : (List TPair))]), f_7.2.2.2.2)
        Option.bind (bodegaref6_Fabric_renew k v3 c_9) fun r4 =>
        some (.inl (clients_1, r4.1, (IntKind.i64.wrap (c_9 + (1:Int))), ()))
      else none
    else none
  else
    some (.inr (f_7, ()))
noncomputable def bodegaref6_New_L2_it (k : Nat) (clients_1 : Int) (f_7 : TFabric) (c_9 : Int) : Option ((TFabric × Unit)) :=
  iterO (fun s : Int × TFabric × Int × Unit => bodegaref6_New_L2 k s.1 s.2.1 s.2.2.1) k (clients_1, f_7, c_9, ())
noncomputable def bodegaref6_New (k : Nat) (nodes_0 : Int) (clients_1 : Int) (lines_2 : Int) : Option ((Option TFabric) × Unit) :=
  Option.bind (bodegaref6_New_L1_it k nodes_0 clients_1 lines_2 (lines_2, ([] : (List TNode)), ([] : (List Tclient)), ([] : (List (List TPair))), ([] : (List TPair)), ()) (0:Int)) fun o2 =>
  Option.bind (bodegaref6_New_L2_it k o2.1 o2.2.1 (0:Int)) fun o5 =>
  some ((some o5.1), ())
def bodegaref6_New_sig : Sig := ⟨[⟨false, (.int .i64), .s, .s⟩, ⟨false, (.int .i64), .s, .s⟩, ⟨false, (.int .i64), .s, .s⟩], [((.ptr y1), (.o q1))]⟩
noncomputable def bodegaref6_New_te (k : Nat) : TE := ⟨bodegaref6_New_sig, fun s => bodegaref6_New k s.1 s.2.1 s.2.2.1⟩
noncomputable def bodegaref6_New_C (k : Nat) : Ctx := cx [(95, bodegaref6_NewNode_te k), (96, bodegaref6_Fabric_renew_te k)] [] []
noncomputable def bodegaref6_New_code : Code := Tryz.f80.body.getD .skip
theorem bodegaref6_New_tab (k : Nat) : TabOk Tryz.prog (bodegaref6_New_C k) := ⟨tab_cons (bodegaref6_NewNode_ok k) (tab_cons (bodegaref6_Fabric_renew_ok k) (tab_nil)), lay_nil⟩
noncomputable def bodegaref6_New_ac (k : Nat) : AC := (.sq .rg (.sq .rg (.sq (.sq .rg (.bk (.lp [(0, .va (.int .i64) .s), (1, .va (.int .i64) .s), (2, .va (.int .i64) .s), (7, .bo y1 q1), (8, .va (.int .i64) .s)] [(.exit 0, [(1, .va (.int .i64) .s), (7, .bo y1 q1)])] (fun s => bodegaref6_New_L1 k s.1 s.2.1 s.2.2.1 s.2.2.2.1 s.2.2.2.2.1) (.sq (.sq .rg (.cd .nx .nx)) (.sq (.bk .rg) .rg))))) (.sq (.sq .rg (.bk (.lp [(1, .va (.int .i64) .s), (7, .bo y1 q1), (9, .va (.int .i64) .s)] [(.exit 2, [(7, .bo y1 q1)])] (fun s => bodegaref6_New_L2 k s.1 s.2.1 s.2.2.1) (.sq (.sq .rg (.cd .nx .nx)) (.sq (.bk (.sq .rg (.sq .rg .rg))) .rg))))) (.sq .rg .nx)))))
theorem bodegaref6_New_fix (k : Nat) : acFix (bodegaref6_New_C k) k 57 (bodegaref6_New_ac k) bodegaref6_New_code = bodegaref6_New_ac k := by kernel_rfl
theorem bodegaref6_New_eq (k : Nat) (s : bodegaref6_New_sig.S) : fnEv (bodegaref6_New_C k) k bodegaref6_New_sig Tryz.f80 bodegaref6_New_code (bodegaref6_New_ac k) s = (bodegaref6_New_te k).F s := by kernel_rfl
theorem bodegaref6_New_ok (k : Nat) : CallOk Tryz.prog 80 (bodegaref6_New_te k) :=
  fn_ok (C := bodegaref6_New_C k) (code := bodegaref6_New_code) (g := bodegaref6_New_sig) (k := k) (Fn := (bodegaref6_New_te k).F) mixed (tysOk _ _ _) (eqsOk _ _ _) (bodegaref6_New_tab k) Tryz.func80 (by kernel_rfl) (by kernel_rfl) (of_decide_eq_true (by kernel_rfl)) (by kernel_rfl) (by kernel_rfl) (by kernel_rfl)
    (fun s q h => ⟨bodegaref6_New_ac k, ok_of_fix _ _ (bodegaref6_New_fix k), (bodegaref6_New_eq k s).trans h⟩)

/-! #### bodega/bodegaref1.InitialValue -/
noncomputable def bodegaref1_InitialValue_L1 (_k : Nat) (nodes_0 : Int) (v_4 : Int) (i_5 : Int) : Option ((Int × Int × Int × Unit) ⊕ ((Int × Unit))) :=
  bif (decide (i_5 < nodes_0)) then
    bif (decide ((0:Int) ≤ (IntKind.u64.wrap (IntKind.i64.wrap ((7:Int) * i_5))))) then
      some (.inl (nodes_0, (ior .u64 v_4 (ishl .u64 (7:Int) (IntKind.u64.wrap (IntKind.i64.wrap ((7:Int) * i_5))))), (IntKind.i64.wrap (i_5 + (1:Int))), ()))
    else none
  else
    some (.inr (v_4, ()))
noncomputable def bodegaref1_InitialValue_L1_it (k : Nat) (nodes_0 : Int) (v_4 : Int) (i_5 : Int) : Option ((Int × Unit)) :=
  iterO (fun s : Int × Int × Int × Unit => bodegaref1_InitialValue_L1 k s.1 s.2.1 s.2.2.1) k (nodes_0, v_4, i_5, ())
noncomputable def bodegaref1_InitialValue (k : Nat) (nodes_0 : Int) : Option (Int × Int × Unit) :=
  bif (bif (decide (nodes_0 < (1:Int))) then true else (decide ((5:Int) < nodes_0))) then
    some ((0:Int), (2:Int), ())
  else
    Option.bind (bodegaref1_InitialValue_L1_it k nodes_0 (549755813888:Int) (0:Int)) fun o1 =>
    some (o1.1, (0:Int), ())
def bodegaref1_InitialValue_sig : Sig := ⟨[⟨false, (.int .i64), .s, .s⟩], [((.int .u64), .s), ((.int .i64), .s)]⟩
noncomputable def bodegaref1_InitialValue_te (k : Nat) : TE := ⟨bodegaref1_InitialValue_sig, fun s => bodegaref1_InitialValue k s.1⟩
noncomputable def bodegaref1_InitialValue_C (_k : Nat) : Ctx := cx [] [] []
noncomputable def bodegaref1_InitialValue_code : Code := Tryz.f112.body.getD .skip
theorem bodegaref1_InitialValue_tab (k : Nat) : TabOk Tryz.prog (bodegaref1_InitialValue_C k) := ⟨tab_nil, lay_nil⟩
noncomputable def bodegaref1_InitialValue_ac (k : Nat) : AC := (.sq .rg (.sq (.sq .rg (.cd (.sq .rg .nx) .nx)) (.sq .rg (.sq (.sq .rg (.bk (.lp [(0, .va (.int .i64) .s), (4, .va (.int .u64) .s), (5, .va (.int .i64) .s)] [(.exit 0, [(4, .va (.int .u64) .s)])] (fun s => bodegaref1_InitialValue_L1 k s.1 s.2.1 s.2.2.1) (.sq (.sq .rg (.cd .nx .nx)) (.sq (.bk .rg) .rg))))) (.sq .rg .nx)))))
theorem bodegaref1_InitialValue_fix (k : Nat) : acFix (bodegaref1_InitialValue_C k) k 24 (bodegaref1_InitialValue_ac k) bodegaref1_InitialValue_code = bodegaref1_InitialValue_ac k := by kernel_rfl
theorem bodegaref1_InitialValue_eq (k : Nat) (s : bodegaref1_InitialValue_sig.S) : fnEv (bodegaref1_InitialValue_C k) k bodegaref1_InitialValue_sig Tryz.f112 bodegaref1_InitialValue_code (bodegaref1_InitialValue_ac k) s = (bodegaref1_InitialValue_te k).F s := by kernel_rfl
theorem bodegaref1_InitialValue_ok (k : Nat) : CallOk Tryz.prog 112 (bodegaref1_InitialValue_te k) :=
  fn_ok (C := bodegaref1_InitialValue_C k) (code := bodegaref1_InitialValue_code) (g := bodegaref1_InitialValue_sig) (k := k) (Fn := (bodegaref1_InitialValue_te k).F) mixed (tysOk _ _ _) (eqsOk _ _ _) (bodegaref1_InitialValue_tab k) Tryz.func112 (by kernel_rfl) (by kernel_rfl) (of_decide_eq_true (by kernel_rfl)) (by kernel_rfl) (by kernel_rfl) (by kernel_rfl)
    (fun s q h => ⟨bodegaref1_InitialValue_ac k, ok_of_fix _ _ (bodegaref1_InitialValue_fix k), (bodegaref1_InitialValue_eq k s).trans h⟩)

/-! #### bodega/bodegaref1.ConsensusAt -/
noncomputable def bodegaref1_ConsensusAt (_k : Nat) (v_0 : Int) : Option (Int × Unit) :=
  bif (bif (decide (v_0 < (0:Int))) then true else (decide ((16:Int) ≤ v_0))) then
    some ((-1:Int), ())
  else
    some ((IntKind.i64.wrap ((8:Int) + v_0)), ())
def bodegaref1_ConsensusAt_sig : Sig := ⟨[⟨false, (.int .i64), .s, .s⟩], [((.int .i64), .s)]⟩
noncomputable def bodegaref1_ConsensusAt_te (k : Nat) : TE := ⟨bodegaref1_ConsensusAt_sig, fun s => bodegaref1_ConsensusAt k s.1⟩
noncomputable def bodegaref1_ConsensusAt_C (_k : Nat) : Ctx := cx [] [] []
noncomputable def bodegaref1_ConsensusAt_code : Code := Tryz.f113.body.getD .skip
theorem bodegaref1_ConsensusAt_tab (k : Nat) : TabOk Tryz.prog (bodegaref1_ConsensusAt_C k) := ⟨tab_nil, lay_nil⟩
noncomputable def bodegaref1_ConsensusAt_ac (_k : Nat) : AC := (.sq .rg (.sq (.sq .rg (.cd (.sq .rg .nx) .nx)) (.sq .rg .nx)))
theorem bodegaref1_ConsensusAt_fix (k : Nat) : acFix (bodegaref1_ConsensusAt_C k) k 11 (bodegaref1_ConsensusAt_ac k) bodegaref1_ConsensusAt_code = bodegaref1_ConsensusAt_ac k := by kernel_rfl
theorem bodegaref1_ConsensusAt_eq (k : Nat) (s : bodegaref1_ConsensusAt_sig.S) : fnEv (bodegaref1_ConsensusAt_C k) k bodegaref1_ConsensusAt_sig Tryz.f113 bodegaref1_ConsensusAt_code (bodegaref1_ConsensusAt_ac k) s = (bodegaref1_ConsensusAt_te k).F s := by kernel_rfl
theorem bodegaref1_ConsensusAt_ok (k : Nat) : CallOk Tryz.prog 113 (bodegaref1_ConsensusAt_te k) :=
  fn_ok (C := bodegaref1_ConsensusAt_C k) (code := bodegaref1_ConsensusAt_code) (g := bodegaref1_ConsensusAt_sig) (k := k) (Fn := (bodegaref1_ConsensusAt_te k).F) mixed (tysOk _ _ _) (eqsOk _ _ _) (bodegaref1_ConsensusAt_tab k) Tryz.func113 (by kernel_rfl) (by kernel_rfl) (of_decide_eq_true (by kernel_rfl)) (by kernel_rfl) (by kernel_rfl) (by kernel_rfl)
    (fun s q h => ⟨bodegaref1_ConsensusAt_ac k, ok_of_fix _ _ (bodegaref1_ConsensusAt_fix k), (bodegaref1_ConsensusAt_eq k s).trans h⟩)

/-! #### bodega/bodegaref1.Door -/
noncomputable def bodegaref1_Door (k : Nat) (c_0 : Int) : Option (Int × Unit) :=
  Option.bind (bodegaref1_Client k c_0) fun r1 =>
  bif (!r1.1) then
    some ((-1:Int), ())
  else
    some ((IntKind.i64.wrap ((24:Int) + c_0)), ())
def bodegaref1_Door_sig : Sig := ⟨[⟨false, (.int .i64), .s, .s⟩], [((.int .i64), .s)]⟩
noncomputable def bodegaref1_Door_te (k : Nat) : TE := ⟨bodegaref1_Door_sig, fun s => bodegaref1_Door k s.1⟩
noncomputable def bodegaref1_Door_C (k : Nat) : Ctx := cx [(32, bodegaref1_Client_te k)] [] []
noncomputable def bodegaref1_Door_code : Code := Tryz.f101.body.getD .skip
theorem bodegaref1_Door_tab (k : Nat) : TabOk Tryz.prog (bodegaref1_Door_C k) := ⟨tab_cons (bodegaref1_Client_ok k) (tab_nil), lay_nil⟩
noncomputable def bodegaref1_Door_ac (_k : Nat) : AC := (.sq .rg (.sq (.sq .rg (.cd (.sq .rg .nx) .nx)) (.sq .rg .nx)))
theorem bodegaref1_Door_fix (k : Nat) : acFix (bodegaref1_Door_C k) k 8 (bodegaref1_Door_ac k) bodegaref1_Door_code = bodegaref1_Door_ac k := by kernel_rfl
theorem bodegaref1_Door_eq (k : Nat) (s : bodegaref1_Door_sig.S) : fnEv (bodegaref1_Door_C k) k bodegaref1_Door_sig Tryz.f101 bodegaref1_Door_code (bodegaref1_Door_ac k) s = (bodegaref1_Door_te k).F s := by kernel_rfl
theorem bodegaref1_Door_ok (k : Nat) : CallOk Tryz.prog 101 (bodegaref1_Door_te k) :=
  fn_ok (C := bodegaref1_Door_C k) (code := bodegaref1_Door_code) (g := bodegaref1_Door_sig) (k := k) (Fn := (bodegaref1_Door_te k).F) mixed (tysOk _ _ _) (eqsOk _ _ _) (bodegaref1_Door_tab k) Tryz.func101 (by kernel_rfl) (by kernel_rfl) (of_decide_eq_true (by kernel_rfl)) (by kernel_rfl) (by kernel_rfl) (by kernel_rfl)
    (fun s q h => ⟨bodegaref1_Door_ac k, ok_of_fix _ _ (bodegaref1_Door_fix k), (bodegaref1_Door_eq k s).trans h⟩)

/-! #### bodega/bodegaref1.Formatted -/
noncomputable def bodegaref1_Formatted_L1 (k : Nat) (lines_1 : Int) (w_5 : (List Int)) (c_8 : Int) : Option ((Int × (List Int) × Int × Unit) ⊕ ((Int × (List Int) × Unit))) :=
  bif (decide (c_8 < (6:Int))) then
    Option.bind (bodegaref1_Door k c_8) fun r3 =>
    bif (decide ((0:Int) ≤ r3.1) && decide (r3.1 < (w_5.length : Int))) then
      some (.inl (lines_1, (w_5.set (r3.1.toNat) (1:Int)), (IntKind.i64.wrap (c_8 + (1:Int))), ()))
    else none
  else
    some (.inr (lines_1, w_5, ()))
noncomputable def bodegaref1_Formatted_L1_it (k : Nat) (lines_1 : Int) (w_5 : (List Int)) (c_8 : Int) : Option ((Int × (List Int) × Unit)) :=
  iterO (fun s : Int × (List Int) × Int × Unit => bodegaref1_Formatted_L1 k s.1 s.2.1 s.2.2.1) k (lines_1, w_5, c_8, ())
noncomputable def bodegaref1_Formatted_L2 (_k : Nat) (lines_1 : Int) (w_5 : (List Int)) (l_9 : Int) : Option ((Int × (List Int) × Int × Unit) ⊕ (((List Int) × Unit))) :=
  bif (decide (l_9 < lines_1)) then
    bif (decide ((0:Int) ≤ (IntKind.i64.wrap (l_9 * (8:Int)))) && decide ((IntKind.i64.wrap (l_9 * (8:Int))) < (w_5.length : Int))) then
      some (.inl (lines_1, (w_5.set ((IntKind.i64.wrap (l_9 * (8:Int))).toNat) (256:Int)), (IntKind.i64.wrap (l_9 + (1:Int))), ()))
    else none
  else
    some (.inr (w_5, ()))
noncomputable def bodegaref1_Formatted_L2_it (k : Nat) (lines_1 : Int) (w_5 : (List Int)) (l_9 : Int) : Option (((List Int) × Unit)) :=
  iterO (fun s : Int × (List Int) × Int × Unit => bodegaref1_Formatted_L2 k s.1 s.2.1 s.2.2.1) k (lines_1, w_5, l_9, ())
noncomputable def bodegaref1_Formatted (k : Nat) (nodes_0 : Int) (lines_1 : Int) : Option ((List Int) × Unit) :=
  bif (decide ((IntKind.i64.wrap (lines_1 * (8:Int))) = (IntKind.i64.wrap (lines_1 * (8:Int)))) && decide ((0:Int) ≤ (IntKind.i64.wrap (lines_1 * (8:Int)))) && decide ((IntKind.i64.wrap (lines_1 * (8:Int))) ≤ 1073741824)) then
    bif (decide ((0:Int) ≤ (0:Int)) && decide ((0:Int) < ((List.replicate ((IntKind.i64.wrap (lines_1 * (8:Int))).toNat) (0:Int)).length : Int))) then
      bif (decide ((0:Int) ≤ (1:Int)) && decide ((1:Int) < (((List.replicate ((IntKind.i64.wrap (lines_1 * (8:Int))).toNat) (0:Int)).set 0 (1:Int)).length : Int))) then
        Option.bind (bodegaref1_InitialValue k nodes_0) fun r1 =>
        Option.bind (bodegaref1_ConsensusAt k (0:Int)) fun r2 =>
        bif (decide ((0:Int) ≤ r2.1) && decide (r2.1 < ((((List.replicate ((IntKind.i64.wrap (lines_1 * (8:Int))).toNat) (0:Int)).set 0 (1:Int)).set 1 (1:Int)).length : Int))) then
          Option.bind (bodegaref1_Formatted_L1_it k lines_1 ((((List.replicate ((IntKind.i64.wrap (lines_1 * (8:Int))).toNat) (0:Int)).set 0 (1:Int)).set 1 (1:Int)).set (r2.1.toNat) (ior .u64 (4504699138998272:Int) r1.1)) (0:Int)) fun o4 =>
          Option.bind (bodegaref1_Formatted_L2_it k o4.1 o4.2.1 (96:Int)) fun o5 =>
          some (o5.1, ())
        else none
      else none
    else none
  else none
def bodegaref1_Formatted_sig : Sig := ⟨[⟨false, (.int .i64), .s, .s⟩, ⟨false, (.int .i64), .s, .s⟩], [((.list (.int .u64)), (.o .s))]⟩
noncomputable def bodegaref1_Formatted_te (k : Nat) : TE := ⟨bodegaref1_Formatted_sig, fun s => bodegaref1_Formatted k s.1 s.2.1⟩
noncomputable def bodegaref1_Formatted_C (k : Nat) : Ctx := cx [(101, bodegaref1_Door_te k), (112, bodegaref1_InitialValue_te k), (113, bodegaref1_ConsensusAt_te k)] [] []
noncomputable def bodegaref1_Formatted_code : Code := Tryz.f97.body.getD .skip
theorem bodegaref1_Formatted_tab (k : Nat) : TabOk Tryz.prog (bodegaref1_Formatted_C k) := ⟨tab_cons (bodegaref1_Door_ok k) (tab_cons (bodegaref1_InitialValue_ok k) (tab_cons (bodegaref1_ConsensusAt_ok k) (tab_nil))), lay_nil⟩
noncomputable def bodegaref1_Formatted_ac (k : Nat) : AC := (.sq .rg (.sq .rg (.sq .rg (.sq .rg (.sq .rg (.sq (.sq .rg (.bk (.lp [(1, .va (.int .i64) .s), (5, .va (.list (.int .u64)) (.o .s)), (8, .va (.int .i64) .s)] [(.exit 0, [(1, .va (.int .i64) .s), (5, .va (.list (.int .u64)) (.o .s))])] (fun s => bodegaref1_Formatted_L1 k s.1 s.2.1 s.2.2.1) (.sq (.sq .rg (.cd .nx .nx)) (.sq (.bk .rg) .rg))))) (.sq (.sq .rg (.bk (.lp [(1, .va (.int .i64) .s), (5, .va (.list (.int .u64)) (.o .s)), (9, .va (.int .i64) .s)] [(.exit 2, [(5, .va (.list (.int .u64)) (.o .s))])] (fun s => bodegaref1_Formatted_L2 k s.1 s.2.1 s.2.2.1) (.sq (.sq .rg (.cd .nx .nx)) (.sq (.bk .rg) .rg))))) (.sq .rg .nx))))))))
theorem bodegaref1_Formatted_fix (k : Nat) : acFix (bodegaref1_Formatted_C k) k 45 (bodegaref1_Formatted_ac k) bodegaref1_Formatted_code = bodegaref1_Formatted_ac k := by kernel_rfl
theorem bodegaref1_Formatted_eq (k : Nat) (s : bodegaref1_Formatted_sig.S) : fnEv (bodegaref1_Formatted_C k) k bodegaref1_Formatted_sig Tryz.f97 bodegaref1_Formatted_code (bodegaref1_Formatted_ac k) s = (bodegaref1_Formatted_te k).F s := by kernel_rfl
theorem bodegaref1_Formatted_ok (k : Nat) : CallOk Tryz.prog 97 (bodegaref1_Formatted_te k) :=
  fn_ok (C := bodegaref1_Formatted_C k) (code := bodegaref1_Formatted_code) (g := bodegaref1_Formatted_sig) (k := k) (Fn := (bodegaref1_Formatted_te k).F) mixed (tysOk _ _ _) (eqsOk _ _ _) (bodegaref1_Formatted_tab k) Tryz.func97 (by kernel_rfl) (by kernel_rfl) (of_decide_eq_true (by kernel_rfl)) (by kernel_rfl) (by kernel_rfl) (by kernel_rfl)
    (fun s q h => ⟨bodegaref1_Formatted_ac k, ok_of_fix _ _ (bodegaref1_Formatted_fix k), (bodegaref1_Formatted_eq k s).trans h⟩)

/-! #### (*bodega/bodegaref6.Fabric).Format -/
noncomputable def bodegaref6_Fabric_Format_L1 (k : Nat) (f_0 : TFabric) (i_2 : Int) : Option ((TFabric × Int × Unit) ⊕ ((TFabric × Unit))) :=
  bif (decide (i_2 < (f_0.2.1.length : Int))) then
    Option.bind (bodegaref1_Formatted k (f_0.2.1.length : Int) f_0.1) fun r1 =>
    bif (decide ((0:Int) ≤ i_2) && decide (i_2 < (f_0.2.1.length : Int))) then
      some (.inl ((f_0.1, (f_0.2.1.set (i_2.toNat) (r1.1, (f_0.2.1.getD (i_2.toNat) (([] : (List Int)), false, ())).2)), f_0.2.2), (IntKind.i64.wrap (i_2 + (1:Int))), ()))
    else none
  else
    some (.inr (f_0, ()))
noncomputable def bodegaref6_Fabric_Format_L1_it (k : Nat) (f_0 : TFabric) (i_2 : Int) : Option ((TFabric × Unit)) :=
  iterO (fun s : TFabric × Int × Unit => bodegaref6_Fabric_Format_L1 k s.1 s.2.1) k (f_0, i_2, ())
noncomputable def bodegaref6_Fabric_Format (k : Nat) (f_0 : TFabric) : Option (TFabric × Unit) :=
  Option.bind (bodegaref6_Fabric_Format_L1_it k f_0 (0:Int)) fun o2 =>
  some (o2.1, ())
def bodegaref6_Fabric_Format_sig : Sig := ⟨[⟨true, y1, q1, q1⟩], []⟩
noncomputable def bodegaref6_Fabric_Format_te (k : Nat) : TE := ⟨bodegaref6_Fabric_Format_sig, fun s => bodegaref6_Fabric_Format k s.1⟩
noncomputable def bodegaref6_Fabric_Format_C (k : Nat) : Ctx := cx [(97, bodegaref1_Formatted_te k)] [] []
noncomputable def bodegaref6_Fabric_Format_code : Code := Tryz.f81.body.getD .skip
theorem bodegaref6_Fabric_Format_tab (k : Nat) : TabOk Tryz.prog (bodegaref6_Fabric_Format_C k) := ⟨tab_cons (bodegaref1_Formatted_ok k) (tab_nil), lay_nil⟩
noncomputable def bodegaref6_Fabric_Format_ac (k : Nat) : AC := (.sq .rg (.bk (.lp [(0, .bo y1 q1), (2, .va (.int .i64) .s)] [(.exit 0, [(0, .bo y1 q1)])] (fun s => bodegaref6_Fabric_Format_L1 k s.1 s.2.1) (.sq (.sq .rg (.cd .nx .nx)) (.sq (.bk .rg) .rg)))))
theorem bodegaref6_Fabric_Format_fix (k : Nat) : acFix (bodegaref6_Fabric_Format_C k) k 29 (bodegaref6_Fabric_Format_ac k) bodegaref6_Fabric_Format_code = bodegaref6_Fabric_Format_ac k := by kernel_rfl
theorem bodegaref6_Fabric_Format_eq (k : Nat) (s : bodegaref6_Fabric_Format_sig.S) : fnEv (bodegaref6_Fabric_Format_C k) k bodegaref6_Fabric_Format_sig Tryz.f81 bodegaref6_Fabric_Format_code (bodegaref6_Fabric_Format_ac k) s = (bodegaref6_Fabric_Format_te k).F s := by kernel_rfl
theorem bodegaref6_Fabric_Format_ok (k : Nat) : CallOk Tryz.prog 81 (bodegaref6_Fabric_Format_te k) :=
  fn_ok (C := bodegaref6_Fabric_Format_C k) (code := bodegaref6_Fabric_Format_code) (g := bodegaref6_Fabric_Format_sig) (k := k) (Fn := (bodegaref6_Fabric_Format_te k).F) mixed (tysOk _ _ _) (eqsOk _ _ _) (bodegaref6_Fabric_Format_tab k) Tryz.func81 (by kernel_rfl) (by kernel_rfl) (of_decide_eq_true (by kernel_rfl)) (by kernel_rfl) (by kernel_rfl) (by kernel_rfl)
    (fun s q h => ⟨bodegaref6_Fabric_Format_ac k, ok_of_fix _ _ (bodegaref6_Fabric_Format_fix k), (bodegaref6_Fabric_Format_eq k s).trans h⟩)

/-! #### bodega/bodegahand.Page -/
noncomputable def bodegahand_Page_L1 (k : Nat) (n_0 : Int) (t_4 : TPage) (t_5 : TPage) (t_6 : Int) : Option ((Int × TPage × TPage × Int × Unit) ⊕ ((TPage × TPage × Unit))) :=
  bif (decide (t_6 < (7:Int))) then
    Option.bind (bodegahand_Pick k n_0 (1048576:Int)) fun r3 =>
    bif (decide ((0:Int) ≤ t_6) && decide (t_6 < (7:Int))) then
      some (.inl (n_0, t_4, (t_5.1, t_5.2.1, (t_5.2.2.1.set (t_6.toNat) (IntKind.u64.wrap ((IntKind.u64.wrap r3.1) * (IntKind.u64.wrap (IntKind.i64.wrap (t_6 + (3:Int))))))), t_5.2.2.2), (IntKind.i64.wrap (t_6 + (1:Int))), ()))
    else none
  else
    some (.inr (t_4, t_5, ()))
noncomputable def bodegahand_Page_L1_it (k : Nat) (n_0 : Int) (t_4 : TPage) (t_5 : TPage) (t_6 : Int) : Option ((TPage × TPage × Unit)) :=
  iterO (fun s : Int × TPage × TPage × Int × Unit => bodegahand_Page_L1 k s.1 s.2.1 s.2.2.1 s.2.2.2.1) k (n_0, t_4, t_5, t_6, ())
noncomputable def bodegahand_Page (k : Nat) (n_0 : Int) (lines_1 : Int) : Option (TPage × Unit) :=
  Option.bind (bodegahand_Pick k n_0 (IntKind.i64.wrap (lines_1 - (96:Int)))) fun r1 =>
  Option.bind (bodegahand_Pick k (IntKind.i64.wrap (Int.tdiv n_0 (64:Int))) (4:Int)) fun r2 =>
  Option.bind (bodegahand_Page_L1_it k n_0 ((0:Int), (0:Int), (List.replicate 7 (0:Int)), ()) ((IntKind.i64.wrap ((96:Int) + r1.1)), (ishl .u64 (IntKind.u64.wrap (IntKind.i64.wrap (r2.1 + (1:Int)))) (8:Int)), (List.replicate 7 (0:Int)), ()) (0:Int)) fun o4 =>
  some (o4.2.1, ())
def bodegahand_Page_sig : Sig := ⟨[⟨false, (.int .i64), .s, .s⟩, ⟨false, (.int .i64), .s, .s⟩], [(y6, .s)]⟩
noncomputable def bodegahand_Page_te (k : Nat) : TE := ⟨bodegahand_Page_sig, fun s => bodegahand_Page k s.1 s.2.1⟩
noncomputable def bodegahand_Page_C (k : Nat) : Ctx := cx [(7, bodegahand_Pick_te k)] [] []
noncomputable def bodegahand_Page_code : Code := Tryz.f98.body.getD .skip
theorem bodegahand_Page_tab (k : Nat) : TabOk Tryz.prog (bodegahand_Page_C k) := ⟨tab_cons (bodegahand_Pick_ok k) (tab_nil), lay_nil⟩
noncomputable def bodegahand_Page_ac (k : Nat) : AC := (.sq .rg (.sq .rg (.sq (.sq .rg (.bk (.lp [(0, .va (.int .i64) .s), (4, .bo y6 .s), (5, .bo y6 .s), (6, .va (.int .i64) .s)] [(.exit 0, [(4, .bo y6 .s), (5, .bo y6 .s)])] (fun s => bodegahand_Page_L1 k s.1 s.2.1 s.2.2.1 s.2.2.2.1) (.sq (.sq .rg (.cd .nx .nx)) (.sq (.bk .rg) .rg))))) (.sq .rg .nx))))
theorem bodegahand_Page_fix (k : Nat) : acFix (bodegahand_Page_C k) k 34 (bodegahand_Page_ac k) bodegahand_Page_code = bodegahand_Page_ac k := by kernel_rfl
theorem bodegahand_Page_eq (k : Nat) (s : bodegahand_Page_sig.S) : fnEv (bodegahand_Page_C k) k bodegahand_Page_sig Tryz.f98 bodegahand_Page_code (bodegahand_Page_ac k) s = (bodegahand_Page_te k).F s := by kernel_rfl
theorem bodegahand_Page_ok (k : Nat) : CallOk Tryz.prog 98 (bodegahand_Page_te k) :=
  fn_ok (C := bodegahand_Page_C k) (code := bodegahand_Page_code) (g := bodegahand_Page_sig) (k := k) (Fn := (bodegahand_Page_te k).F) mixed (tysOk _ _ _) (eqsOk _ _ _) (bodegahand_Page_tab k) Tryz.func98 (by kernel_rfl) (by kernel_rfl) (of_decide_eq_true (by kernel_rfl)) (by kernel_rfl) (by kernel_rfl) (by kernel_rfl)
    (fun s q h => ⟨bodegahand_Page_ac k, ok_of_fix _ _ (bodegahand_Page_fix k), (bodegahand_Page_eq k s).trans h⟩)

end Go.Proofs.YtkgjdglkkoabmaaGreat.N

set_option maxRecDepth 1000000
namespace Go.Proofs.YtkgjdglkkoabmaaGreat.N
open Go.VL Go.Proofs

/-! #### bodega/bodegahand.Pages -/
noncomputable def bodegahand_Pages_L2 (_k : Nat) (l_0 : (List Int)) (lines_1 : Int) (most_2 : Int) (out_7 : (List TPage)) (i_8 : Int) (t_9 : TPage) (t_10 : Int) : Option (((List Int) × Int × Int × (List TPage) × Int × TPage × Int × Unit) ⊕ (((List Int) × Int × Int × (List TPage) × Int × TPage × Int × Unit))) :=
  bif ((decide ((0:Int) ≤ t_10) && decide (t_10 < (out_7.length : Int))) || (!(decide (t_10 < (out_7.length : Int))))) then
    bif (bif (decide (t_10 < (out_7.length : Int))) then (decide ((out_7.getD (t_10.toNat) ((0:Int), (0:Int), (List.replicate 7 (0:Int)), ())).1 < t_9.1)) else false) then
      some (.inl (l_0, lines_1, most_2, out_7, i_8, t_9, (IntKind.i64.wrap (t_10 + (1:Int))), ()))
    else
      some (.inr (l_0, lines_1, most_2, out_7, i_8, t_9, t_10, ()))
  else none
noncomputable def bodegahand_Pages_L2_it (k : Nat) (l_0 : (List Int)) (lines_1 : Int) (most_2 : Int) (out_7 : (List TPage)) (i_8 : Int) (t_9 : TPage) (t_10 : Int) : Option (((List Int) × Int × Int × (List TPage) × Int × TPage × Int × Unit)) :=
  iterO (fun s : (List Int) × Int × Int × (List TPage) × Int × TPage × Int × Unit => bodegahand_Pages_L2 k s.1 s.2.1 s.2.2.1 s.2.2.2.1 s.2.2.2.2.1 s.2.2.2.2.2.1 s.2.2.2.2.2.2.1) k (l_0, lines_1, most_2, out_7, i_8, t_9, t_10, ())
noncomputable def bodegahand_Pages_L1 (k : Nat) (l_0 : (List Int)) (lines_1 : Int) (most_2 : Int) (out_7 : (List TPage)) (i_8 : Int) : Option (((List Int) × Int × Int × (List TPage) × Int × Unit) ⊕ (((List TPage) × Unit))) :=
  bif (decide (i_8 < (l_0.length : Int))) then
    bif (decide ((0:Int) ≤ i_8) && decide (i_8 < (l_0.length : Int))) then
      Option.bind (bodegahand_Page k (l_0.getD (i_8.toNat) (0:Int)) lines_1) fun r1 =>
      Option.bind (bodegahand_Pages_L2_it k l_0 lines_1 most_2 out_7 i_8 r1.1 (0:Int)) fun o2 =>
      bif ((decide ((0:Int) ≤ o2.2.2.2.2.2.2.1) && decide (o2.2.2.2.2.2.2.1 < (o2.2.2.2.1.length : Int))) || (!(decide (o2.2.2.2.2.2.2.1 < (o2.2.2.2.1.length : Int))))) then
        bif (bif (bif (decide (o2.2.2.2.2.2.2.1 < (o2.2.2.2.1.length : Int))) then (decide ((o2.2.2.2.1.getD (o2.2.2.2.2.2.2.1.toNat) ((0:Int), (0:Int), (List.replicate 7 (0:Int)), ())).1 = o2.2.2.2.2.2.1.1)) else false) then true else (decide (o2.2.2.1 ≤ (o2.2.2.2.1.length : Int)))) then
          some (.inl (o2.1, o2.2.1, o2.2.2.1, o2.2.2.2.1, (IntKind.i64.wrap (o2.2.2.2.2.1 + (1:Int))), ()))
        else
          bif (decide ((0:Int) ≤ (0:Int)) && decide ((0:Int) ≤ o2.2.2.2.2.2.2.1) && decide (o2.2.2.2.2.2.2.1 ≤ (o2.2.2.2.1.length : Int))) then
            bif (decide (([] : (List TPage)).length + ((List.take (o2.2.2.2.2.2.2.1.toNat) o2.2.2.2.1).drop 0).length < 1073741824)) then
              bif (decide ((([] : (List TPage)) ++ ((List.take (o2.2.2.2.2.2.2.1.toNat) o2.2.2.2.1).drop 0)).length + [o2.2.2.2.2.2.1].length < 1073741824)) then
                bif (decide ((0:Int) ≤ o2.2.2.2.2.2.2.1) && decide (o2.2.2.2.2.2.2.1 ≤ (o2.2.2.2.1.length : Int)) && decide ((o2.2.2.2.1.length : Int) ≤ (o2.2.2.2.1.length : Int))) then
                  bif (decide (((([] : (List TPage)) ++ ((List.take (o2.2.2.2.2.2.2.1.toNat) o2.2.2.2.1).drop 0)) ++ [o2.2.2.2.2.2.1]).length + ((List.take ((o2.2.2.2.1.length : Int).toNat) o2.2.2.2.1).drop (o2.2.2.2.2.2.2.1.toNat)).length < 1073741824)) then
                    some (.inl (o2.1, o2.2.1, o2.2.2.1, (((([] : (List TPage)) ++ ((List.take (o2.2.2.2.2.2.2.1.toNat) o2.2.2.2.1).drop 0)) ++ [o2.2.2.2.2.2.1]) ++ ((List.take ((o2.2.2.2.1.length : Int).toNat) o2.2.2.2.1).drop (o2.2.2.2.2.2.2.1.toNat))), (IntKind.i64.wrap (o2.2.2.2.2.1 + (1:Int))), ()))
                  else none
                else none
              else none
            else none
          else none
      else none
    else none
  else
    some (.inr (out_7, ()))
noncomputable def bodegahand_Pages_L1_it (k : Nat) (l_0 : (List Int)) (lines_1 : Int) (most_2 : Int) (out_7 : (List TPage)) (i_8 : Int) : Option (((List TPage) × Unit)) :=
  iterO (fun s : (List Int) × Int × Int × (List TPage) × Int × Unit => bodegahand_Pages_L1 k s.1 s.2.1 s.2.2.1 s.2.2.2.1 s.2.2.2.2.1) k (l_0, lines_1, most_2, out_7, i_8, ())
noncomputable def bodegahand_Pages (k : Nat) (l_0 : (List Int)) (lines_1 : Int) (most_2 : Int) : Option ((List TPage) × Unit) :=
  Option.bind (bodegahand_Pages_L1_it k l_0 lines_1 most_2 ([] : (List TPage)) (0:Int)) fun o3 =>
  some (o3.1, ())
def bodegahand_Pages_sig : Sig := ⟨[⟨false, (.list (.int .i64)), .s, .s⟩, ⟨false, (.int .i64), .s, .s⟩, ⟨false, (.int .i64), .s, .s⟩], [((.list y6), (.o .s))]⟩
noncomputable def bodegahand_Pages_te (k : Nat) : TE := ⟨bodegahand_Pages_sig, fun s => bodegahand_Pages k s.1 s.2.1 s.2.2.1⟩
noncomputable def bodegahand_Pages_C (k : Nat) : Ctx := cx [(98, bodegahand_Page_te k)] [] []
noncomputable def bodegahand_Pages_code : Code := Tryz.f114.body.getD .skip
theorem bodegahand_Pages_tab (k : Nat) : TabOk Tryz.prog (bodegahand_Pages_C k) := ⟨tab_cons (bodegahand_Page_ok k) (tab_nil), lay_nil⟩
noncomputable def bodegahand_Pages_ac (k : Nat) : AC := (.sq .rg (.sq .rg (.sq (.sq .rg (.bk (.lp [(0, .va (.list (.int .i64)) .s), (1, .va (.int .i64) .s), (2, .va (.int .i64) .s), (7, .va (.list y6) (.o .s)), (8, .va (.int .i64) .s)] [(.exit 0, [(7, .va (.list y6) (.o .s))])] (fun s => bodegahand_Pages_L1 k s.1 s.2.1 s.2.2.1 s.2.2.2.1 s.2.2.2.2.1) (.sq (.sq .rg (.cd .nx .nx)) (.sq (.bk (.sq .rg (.sq .rg (.sq (.bk (.lp [(0, .va (.list (.int .i64)) .s), (1, .va (.int .i64) .s), (2, .va (.int .i64) .s), (7, .va (.list y6) (.o .s)), (8, .va (.int .i64) .s), (9, .bo y6 .s), (10, .va (.int .i64) .s)] [(.exit 2, [(0, .va (.list (.int .i64)) .s), (1, .va (.int .i64) .s), (2, .va (.int .i64) .s), (7, .va (.list y6) (.o .s)), (8, .va (.int .i64) .s), (9, .bo y6 .s), (10, .va (.int .i64) .s)])] (fun s => bodegahand_Pages_L2 k s.1 s.2.1 s.2.2.1 s.2.2.2.1 s.2.2.2.2.1 s.2.2.2.2.2.1 s.2.2.2.2.2.2.1) (.sq (.sq .rg (.cd .nx .nx)) (.bk .rg)))) (.sq (.sq .rg (.cd .nx .nx)) .rg))))) .rg))))) (.sq .rg .nx))))
theorem bodegahand_Pages_fix (k : Nat) : acFix (bodegahand_Pages_C k) k 71 (bodegahand_Pages_ac k) bodegahand_Pages_code = bodegahand_Pages_ac k := by kernel_rfl
theorem bodegahand_Pages_eq (k : Nat) (s : bodegahand_Pages_sig.S) : fnEv (bodegahand_Pages_C k) k bodegahand_Pages_sig Tryz.f114 bodegahand_Pages_code (bodegahand_Pages_ac k) s = (bodegahand_Pages_te k).F s := by kernel_rfl
theorem bodegahand_Pages_ok (k : Nat) : CallOk Tryz.prog 114 (bodegahand_Pages_te k) :=
  fn_ok (C := bodegahand_Pages_C k) (code := bodegahand_Pages_code) (g := bodegahand_Pages_sig) (k := k) (Fn := (bodegahand_Pages_te k).F) mixed (tysOk _ _ _) (eqsOk _ _ _) (bodegahand_Pages_tab k) Tryz.func114 (by kernel_rfl) (by kernel_rfl) (of_decide_eq_true (by kernel_rfl)) (by kernel_rfl) (by kernel_rfl) (by kernel_rfl)
    (fun s q h => ⟨bodegahand_Pages_ac k, ok_of_fix _ _ (bodegahand_Pages_fix k), (bodegahand_Pages_eq k s).trans h⟩)

/-! #### bodega/bodegaref1.InHeap -/
noncomputable def bodegaref1_InHeap (_k : Nat) (line_0 : Int) (lines_1 : Int) : Option (Bool × Unit) :=
  some ((bif (bif (bif (decide ((98:Int) ≤ lines_1)) then (decide (lines_1 ≤ (256:Int))) else false) then (decide ((96:Int) ≤ line_0)) else false) then (decide (line_0 < lines_1)) else false), ())
def bodegaref1_InHeap_sig : Sig := ⟨[⟨false, (.int .i64), .s, .s⟩, ⟨false, (.int .i64), .s, .s⟩], [(.bool, .s)]⟩
noncomputable def bodegaref1_InHeap_te (k : Nat) : TE := ⟨bodegaref1_InHeap_sig, fun s => bodegaref1_InHeap k s.1 s.2.1⟩
noncomputable def bodegaref1_InHeap_C (_k : Nat) : Ctx := cx [] [] []
noncomputable def bodegaref1_InHeap_code : Code := Tryz.f127.body.getD .skip
theorem bodegaref1_InHeap_tab (k : Nat) : TabOk Tryz.prog (bodegaref1_InHeap_C k) := ⟨tab_nil, lay_nil⟩
noncomputable def bodegaref1_InHeap_ac (_k : Nat) : AC := (.sq .rg (.sq .rg .nx))
theorem bodegaref1_InHeap_fix (k : Nat) : acFix (bodegaref1_InHeap_C k) k 20 (bodegaref1_InHeap_ac k) bodegaref1_InHeap_code = bodegaref1_InHeap_ac k := by kernel_rfl
theorem bodegaref1_InHeap_eq (k : Nat) (s : bodegaref1_InHeap_sig.S) : fnEv (bodegaref1_InHeap_C k) k bodegaref1_InHeap_sig Tryz.f127 bodegaref1_InHeap_code (bodegaref1_InHeap_ac k) s = (bodegaref1_InHeap_te k).F s := by kernel_rfl
theorem bodegaref1_InHeap_ok (k : Nat) : CallOk Tryz.prog 127 (bodegaref1_InHeap_te k) :=
  fn_ok (C := bodegaref1_InHeap_C k) (code := bodegaref1_InHeap_code) (g := bodegaref1_InHeap_sig) (k := k) (Fn := (bodegaref1_InHeap_te k).F) mixed (tysOk _ _ _) (eqsOk _ _ _) (bodegaref1_InHeap_tab k) Tryz.func127 (by kernel_rfl) (by kernel_rfl) (of_decide_eq_true (by kernel_rfl)) (by kernel_rfl) (by kernel_rfl) (by kernel_rfl)
    (fun s q h => ⟨bodegaref1_InHeap_ac k, ok_of_fix _ _ (bodegaref1_InHeap_fix k), (bodegaref1_InHeap_eq k s).trans h⟩)

/-! #### bodega/bodegaref1.Next -/
noncomputable def bodegaref1_Next (_k : Nat) (h_0 : Int) : Option (Int × Int × Unit) :=
  bif (bif (decide ((ishr .u64 h_0 (8:Int)) < (1:Int))) then true else (decide ((281474976710656:Int) ≤ (IntKind.u64.wrap ((ishr .u64 h_0 (8:Int)) + (1:Int)))))) then
    some ((0:Int), (2:Int), ())
  else
    some ((ishl .u64 (IntKind.u64.wrap ((ishr .u64 h_0 (8:Int)) + (1:Int))) (8:Int)), (0:Int), ())
def bodegaref1_Next_sig : Sig := ⟨[⟨false, (.int .u64), .s, .s⟩], [((.int .u64), .s), ((.int .i64), .s)]⟩
noncomputable def bodegaref1_Next_te (k : Nat) : TE := ⟨bodegaref1_Next_sig, fun s => bodegaref1_Next k s.1⟩
noncomputable def bodegaref1_Next_C (_k : Nat) : Ctx := cx [] [] []
noncomputable def bodegaref1_Next_code : Code := Tryz.f128.body.getD .skip
theorem bodegaref1_Next_tab (k : Nat) : TabOk Tryz.prog (bodegaref1_Next_C k) := ⟨tab_nil, lay_nil⟩
noncomputable def bodegaref1_Next_ac (_k : Nat) : AC := (.sq .rg (.sq .rg (.sq (.sq .rg (.cd (.sq .rg .nx) .nx)) (.sq .rg .nx))))
theorem bodegaref1_Next_fix (k : Nat) : acFix (bodegaref1_Next_C k) k 17 (bodegaref1_Next_ac k) bodegaref1_Next_code = bodegaref1_Next_ac k := by kernel_rfl
theorem bodegaref1_Next_eq (k : Nat) (s : bodegaref1_Next_sig.S) : fnEv (bodegaref1_Next_C k) k bodegaref1_Next_sig Tryz.f128 bodegaref1_Next_code (bodegaref1_Next_ac k) s = (bodegaref1_Next_te k).F s := by kernel_rfl
theorem bodegaref1_Next_ok (k : Nat) : CallOk Tryz.prog 128 (bodegaref1_Next_te k) :=
  fn_ok (C := bodegaref1_Next_C k) (code := bodegaref1_Next_code) (g := bodegaref1_Next_sig) (k := k) (Fn := (bodegaref1_Next_te k).F) mixed (tysOk _ _ _) (eqsOk _ _ _) (bodegaref1_Next_tab k) Tryz.func128 (by kernel_rfl) (by kernel_rfl) (of_decide_eq_true (by kernel_rfl)) (by kernel_rfl) (by kernel_rfl) (by kernel_rfl)
    (fun s q h => ⟨bodegaref1_Next_ac k, ok_of_fix _ _ (bodegaref1_Next_fix k), (bodegaref1_Next_eq k s).trans h⟩)

/-! #### bodega/bodegaref1.Unlocked -/
noncomputable def bodegaref1_Unlocked (_k : Nat) (h_0 : Int) : Option (Bool × Unit) :=
  some ((decide ((iand .u64 h_0 (255:Int)) = (0:Int))), ())
def bodegaref1_Unlocked_sig : Sig := ⟨[⟨false, (.int .u64), .s, .s⟩], [(.bool, .s)]⟩
noncomputable def bodegaref1_Unlocked_te (k : Nat) : TE := ⟨bodegaref1_Unlocked_sig, fun s => bodegaref1_Unlocked k s.1⟩
noncomputable def bodegaref1_Unlocked_C (_k : Nat) : Ctx := cx [] [] []
noncomputable def bodegaref1_Unlocked_code : Code := Tryz.f129.body.getD .skip
theorem bodegaref1_Unlocked_tab (k : Nat) : TabOk Tryz.prog (bodegaref1_Unlocked_C k) := ⟨tab_nil, lay_nil⟩
noncomputable def bodegaref1_Unlocked_ac (_k : Nat) : AC := (.sq .rg (.sq .rg .nx))
theorem bodegaref1_Unlocked_fix (k : Nat) : acFix (bodegaref1_Unlocked_C k) k 6 (bodegaref1_Unlocked_ac k) bodegaref1_Unlocked_code = bodegaref1_Unlocked_ac k := by kernel_rfl
theorem bodegaref1_Unlocked_eq (k : Nat) (s : bodegaref1_Unlocked_sig.S) : fnEv (bodegaref1_Unlocked_C k) k bodegaref1_Unlocked_sig Tryz.f129 bodegaref1_Unlocked_code (bodegaref1_Unlocked_ac k) s = (bodegaref1_Unlocked_te k).F s := by kernel_rfl
theorem bodegaref1_Unlocked_ok (k : Nat) : CallOk Tryz.prog 129 (bodegaref1_Unlocked_te k) :=
  fn_ok (C := bodegaref1_Unlocked_C k) (code := bodegaref1_Unlocked_code) (g := bodegaref1_Unlocked_sig) (k := k) (Fn := (bodegaref1_Unlocked_te k).F) mixed (tysOk _ _ _) (eqsOk _ _ _) (bodegaref1_Unlocked_tab k) Tryz.func129 (by kernel_rfl) (by kernel_rfl) (of_decide_eq_true (by kernel_rfl)) (by kernel_rfl) (by kernel_rfl) (by kernel_rfl)
    (fun s q h => ⟨bodegaref1_Unlocked_ac k, ok_of_fix _ _ (bodegaref1_Unlocked_fix k), (bodegaref1_Unlocked_eq k s).trans h⟩)

/-! #### bodega/bodegaref4.ValidRecord -/
noncomputable def bodegaref4_ValidRecord_L1 (k : Nat) (lines_1 : Int) (r_2 : TRecord) (i_5 : Int) : Option ((Int × TRecord × Int × Unit) ⊕ ((Int × Unit) ⊕ (TRecord × Unit))) :=
  bif (decide (i_5 < (r_2.2.1.length : Int))) then
    bif (decide ((0:Int) ≤ i_5) && decide (i_5 < (r_2.2.1.length : Int))) then
      Option.bind (bodegaref1_InHeap k (r_2.2.1.getD (i_5.toNat) ((0:Int), (0:Int), (List.replicate 7 (0:Int)), ())).1 lines_1) fun r1 =>
      bif (!r1.1) then
        some (.inr (.inl ((2:Int), ())))
      else
        some (.inl (lines_1, r_2, (IntKind.i64.wrap (i_5 + (1:Int))), ()))
    else none
  else
    some (.inr (.inr (r_2, ())))
noncomputable def bodegaref4_ValidRecord_L1_it (k : Nat) (lines_1 : Int) (r_2 : TRecord) (i_5 : Int) : Option ((Int × Unit) ⊕ (TRecord × Unit)) :=
  iterO (fun s : Int × TRecord × Int × Unit => bodegaref4_ValidRecord_L1 k s.1 s.2.1 s.2.2.1) k (lines_1, r_2, i_5, ())
noncomputable def bodegaref4_ValidRecord_L2 (k : Nat) (r_2 : TRecord) (i_6 : Int) : Option ((TRecord × Int × Unit) ⊕ ((Int × Unit) ⊕ (Unit))) :=
  bif (decide (i_6 < (r_2.2.1.length : Int))) then
    bif (decide ((0:Int) ≤ i_6) && decide (i_6 < (r_2.2.1.length : Int))) then
      Option.bind (bodegaref1_Next k (r_2.2.1.getD (i_6.toNat) ((0:Int), (0:Int), (List.replicate 7 (0:Int)), ())).2.1) fun r5 =>
      bif ((decide ((0:Int) ≤ (IntKind.i64.wrap (i_6 - (1:Int)))) && decide ((IntKind.i64.wrap (i_6 - (1:Int))) < (r_2.2.1.length : Int))) || (!(decide ((0:Int) < i_6)))) then
        bif ((decide ((0:Int) ≤ i_6) && decide (i_6 < (r_2.2.1.length : Int))) || (!(decide ((0:Int) < i_6)))) then
          bif ((decide ((0:Int) ≤ i_6) && decide (i_6 < (r_2.2.1.length : Int))) || (!(!(bif (decide ((0:Int) < i_6)) then (decide ((r_2.2.1.getD (i_6.toNat) ((0:Int), (0:Int), (List.replicate 7 (0:Int)), ())).1 ≤ (r_2.2.1.getD ((IntKind.i64.wrap (i_6 - (1:Int))).toNat) ((0:Int), (0:Int), (List.replicate 7 (0:Int)), ())).1)) else false)))) then
            Option.bind (bif (!(bif (decide ((0:Int) < i_6)) then (decide ((r_2.2.1.getD (i_6.toNat) ((0:Int), (0:Int), (List.replicate 7 (0:Int)), ())).1 ≤ (r_2.2.1.getD ((IntKind.i64.wrap (i_6 - (1:Int))).toNat) ((0:Int), (0:Int), (List.replicate 7 (0:Int)), ())).1)) else false)) then bodegaref1_Unlocked k (r_2.2.1.getD (i_6.toNat) ((0:Int), (0:Int), (List.replicate 7 (0:Int)), ())).2.1 else some (false, ())) fun r6 =>
            bif (bif (bif (bif (decide ((0:Int) < i_6)) then (decide ((r_2.2.1.getD (i_6.toNat) ((0:Int), (0:Int), (List.replicate 7 (0:Int)), ())).1 ≤ (r_2.2.1.getD ((IntKind.i64.wrap (i_6 - (1:Int))).toNat) ((0:Int), (0:Int), (List.replicate 7 (0:Int)), ())).1)) else false) then true else (!r6.1)) then true else (!(decide (r5.2.1 = (0:Int))))) then
              some (.inr (.inl ((1:Int), ())))
            else
              some (.inl (r_2, (IntKind.i64.wrap (i_6 + (1:Int))), ()))
          else none
        else none
      else none
    else none
  else
    some (.inr (.inr ()))
noncomputable def bodegaref4_ValidRecord_L2_it (k : Nat) (r_2 : TRecord) (i_6 : Int) : Option ((Int × Unit) ⊕ (Unit)) :=
  iterO (fun s : TRecord × Int × Unit => bodegaref4_ValidRecord_L2 k s.1 s.2.1) k (r_2, i_6, ())
noncomputable def bodegaref4_ValidRecord (k : Nat) (r_0 : TRecord) (lines_1 : Int) : Option (Int × Unit) :=
  bif (bif (decide (lines_1 < (98:Int))) then true else (decide ((256:Int) < lines_1))) then
    some ((18:Int), ())
  else
    bif (bif (bif (bif (decide (r_0.1 < (1:Int))) then true else (decide ((1073741824:Int) ≤ r_0.1))) then true else (decide ((r_0.2.1.length : Int) < (1:Int)))) then true else (decide ((12:Int) < (r_0.2.1.length : Int)))) then
      some ((1:Int), ())
    else
      Option.bind (bodegaref4_ValidRecord_L1_it k lines_1 r_0 (0:Int)) fun o2 =>
      Sum.elim (fun o3 =>
        some (o3.1, ())) (fun o4 =>
        Option.bind (bodegaref4_ValidRecord_L2_it k o4.1 (0:Int)) fun o7 =>
        Sum.elim (fun o8 =>
          some (o8.1, ())) (fun _o9 =>
          some ((0:Int), ())) o7) o2
def bodegaref4_ValidRecord_sig : Sig := ⟨[⟨false, y14, .s, .s⟩, ⟨false, (.int .i64), .s, .s⟩], [((.int .i64), .s)]⟩
noncomputable def bodegaref4_ValidRecord_te (k : Nat) : TE := ⟨bodegaref4_ValidRecord_sig, fun s => bodegaref4_ValidRecord k s.1 s.2.1⟩
noncomputable def bodegaref4_ValidRecord_C (k : Nat) : Ctx := cx [(127, bodegaref1_InHeap_te k), (128, bodegaref1_Next_te k), (129, bodegaref1_Unlocked_te k)] [] []
noncomputable def bodegaref4_ValidRecord_code : Code := Tryz.f124.body.getD .skip
theorem bodegaref4_ValidRecord_tab (k : Nat) : TabOk Tryz.prog (bodegaref4_ValidRecord_C k) := ⟨tab_cons (bodegaref1_InHeap_ok k) (tab_cons (bodegaref1_Next_ok k) (tab_cons (bodegaref1_Unlocked_ok k) (tab_nil))), lay_nil⟩
noncomputable def bodegaref4_ValidRecord_ac (k : Nat) : AC := (.sq .rg (.sq (.sq .rg (.cd (.sq .rg .nx) .nx)) (.sq (.sq .rg (.cd (.sq .rg .nx) .nx)) (.sq (.sq .rg (.bk (.lp [(1, .va (.int .i64) .s), (2, .bo y14 .s), (5, .va (.int .i64) .s)] [(.ret, [(4, .va (.int .i64) .s)]), (.exit 0, [(2, .bo y14 .s)])] (fun s => bodegaref4_ValidRecord_L1 k s.1 s.2.1 s.2.2.1) (.sq (.sq .rg (.cd .nx .nx)) (.sq (.bk (.sq .rg (.cd (.sq .rg .nx) .nx))) .rg))))) (.sq (.sq .rg (.bk (.lp [(2, .bo y14 .s), (6, .va (.int .i64) .s)] [(.ret, [(4, .va (.int .i64) .s)]), (.exit 2, [])] (fun s => bodegaref4_ValidRecord_L2 k s.1 s.2.1) (.sq (.sq .rg (.cd .nx .nx)) (.sq (.bk (.sq .rg (.sq .rg (.cd (.sq .rg .nx) .nx)))) .rg))))) (.sq .rg .nx))))))
theorem bodegaref4_ValidRecord_fix (k : Nat) : acFix (bodegaref4_ValidRecord_C k) k 100 (bodegaref4_ValidRecord_ac k) bodegaref4_ValidRecord_code = bodegaref4_ValidRecord_ac k := by kernel_rfl
theorem bodegaref4_ValidRecord_eq (k : Nat) (s : bodegaref4_ValidRecord_sig.S) : fnEv (bodegaref4_ValidRecord_C k) k bodegaref4_ValidRecord_sig Tryz.f124 bodegaref4_ValidRecord_code (bodegaref4_ValidRecord_ac k) s = (bodegaref4_ValidRecord_te k).F s := by kernel_rfl
theorem bodegaref4_ValidRecord_ok (k : Nat) : CallOk Tryz.prog 124 (bodegaref4_ValidRecord_te k) :=
  fn_ok (C := bodegaref4_ValidRecord_C k) (code := bodegaref4_ValidRecord_code) (g := bodegaref4_ValidRecord_sig) (k := k) (Fn := (bodegaref4_ValidRecord_te k).F) mixed (tysOk _ _ _) (eqsOk _ _ _) (bodegaref4_ValidRecord_tab k) Tryz.func124 (by kernel_rfl) (by kernel_rfl) (of_decide_eq_true (by kernel_rfl)) (by kernel_rfl) (by kernel_rfl) (by kernel_rfl)
    (fun s q h => ⟨bodegaref4_ValidRecord_ac k, ok_of_fix _ _ (bodegaref4_ValidRecord_fix k), (bodegaref4_ValidRecord_eq k s).trans h⟩)

/-! #### bodega/bodegaref1.Little -/
noncomputable def bodegaref1_Little_L1 (_k : Nat) (w_0 : Int) (b_3 : (List Int)) (i_4 : Int) : Option ((Int × (List Int) × Int × Unit) ⊕ (((List Int) × Unit))) :=
  bif (decide (i_4 < (8:Int))) then
    bif (decide ((0:Int) ≤ (IntKind.u64.wrap (IntKind.i64.wrap ((8:Int) * i_4))))) then
      bif (decide ((0:Int) ≤ i_4) && decide (i_4 < (b_3.length : Int))) then
        some (.inl (w_0, (b_3.set (i_4.toNat) (IntKind.u8.wrap (ishr .u64 w_0 (IntKind.u64.wrap (IntKind.i64.wrap ((8:Int) * i_4)))))), (IntKind.i64.wrap (i_4 + (1:Int))), ()))
      else none
    else none
  else
    some (.inr (b_3, ()))
noncomputable def bodegaref1_Little_L1_it (k : Nat) (w_0 : Int) (b_3 : (List Int)) (i_4 : Int) : Option (((List Int) × Unit)) :=
  iterO (fun s : Int × (List Int) × Int × Unit => bodegaref1_Little_L1 k s.1 s.2.1 s.2.2.1) k (w_0, b_3, i_4, ())
noncomputable def bodegaref1_Little (k : Nat) (w_0 : Int) : Option ((List Int) × Unit) :=
  bif (decide ((8:Int) = (8:Int)) && decide ((0:Int) ≤ (8:Int)) && decide ((8:Int) ≤ 1073741824)) then
    Option.bind (bodegaref1_Little_L1_it k w_0 (List.replicate 8 (0:Int)) (0:Int)) fun o1 =>
    some (o1.1, ())
  else none
def bodegaref1_Little_sig : Sig := ⟨[⟨false, (.int .u64), .s, .s⟩], [((.list (.int .u8)), (.o .s))]⟩
noncomputable def bodegaref1_Little_te (k : Nat) : TE := ⟨bodegaref1_Little_sig, fun s => bodegaref1_Little k s.1⟩
noncomputable def bodegaref1_Little_C (_k : Nat) : Ctx := cx [] [] []
noncomputable def bodegaref1_Little_code : Code := Tryz.f131.body.getD .skip
theorem bodegaref1_Little_tab (k : Nat) : TabOk Tryz.prog (bodegaref1_Little_C k) := ⟨tab_nil, lay_nil⟩
noncomputable def bodegaref1_Little_ac (k : Nat) : AC := (.sq .rg (.sq .rg (.sq (.sq .rg (.bk (.lp [(0, .va (.int .u64) .s), (3, .va (.list (.int .u8)) (.o .s)), (4, .va (.int .i64) .s)] [(.exit 0, [(3, .va (.list (.int .u8)) (.o .s))])] (fun s => bodegaref1_Little_L1 k s.1 s.2.1 s.2.2.1) (.sq (.sq .rg (.cd .nx .nx)) (.sq (.bk .rg) .rg))))) (.sq .rg .nx))))
theorem bodegaref1_Little_fix (k : Nat) : acFix (bodegaref1_Little_C k) k 20 (bodegaref1_Little_ac k) bodegaref1_Little_code = bodegaref1_Little_ac k := by kernel_rfl
theorem bodegaref1_Little_eq (k : Nat) (s : bodegaref1_Little_sig.S) : fnEv (bodegaref1_Little_C k) k bodegaref1_Little_sig Tryz.f131 bodegaref1_Little_code (bodegaref1_Little_ac k) s = (bodegaref1_Little_te k).F s := by kernel_rfl
theorem bodegaref1_Little_ok (k : Nat) : CallOk Tryz.prog 131 (bodegaref1_Little_te k) :=
  fn_ok (C := bodegaref1_Little_C k) (code := bodegaref1_Little_code) (g := bodegaref1_Little_sig) (k := k) (Fn := (bodegaref1_Little_te k).F) mixed (tysOk _ _ _) (eqsOk _ _ _) (bodegaref1_Little_tab k) Tryz.func131 (by kernel_rfl) (by kernel_rfl) (of_decide_eq_true (by kernel_rfl)) (by kernel_rfl) (by kernel_rfl) (by kernel_rfl)
    (fun s q h => ⟨bodegaref1_Little_ac k, ok_of_fix _ _ (bodegaref1_Little_fix k), (bodegaref1_Little_eq k s).trans h⟩)

/-! #### bodega/bodegaref1.Extend -/
noncomputable def bodegaref1_Extend_L2 (_k : Nat) (b_1 : (List Int)) (r_5 : Int) (i_6 : Int) (t_7 : Int) : Option (((List Int) × Int × Int × Int × Unit) ⊕ (((List Int) × Int × Int × Unit))) :=
  bif (decide (t_7 < (8:Int))) then
    bif (decide ((iand .u64 r_5 (1:Int)) = (1:Int))) then
      some (.inl (b_1, (ixor .u64 (ishr .u64 r_5 (1:Int)) (14514072000185962306:Int)), i_6, (IntKind.i64.wrap (t_7 + (1:Int))), ()))
    else
      some (.inl (b_1, (ishr .u64 r_5 (1:Int)), i_6, (IntKind.i64.wrap (t_7 + (1:Int))), ()))
  else
    some (.inr (b_1, r_5, i_6, ()))
noncomputable def bodegaref1_Extend_L2_it (k : Nat) (b_1 : (List Int)) (r_5 : Int) (i_6 : Int) (t_7 : Int) : Option (((List Int) × Int × Int × Unit)) :=
  iterO (fun s : (List Int) × Int × Int × Int × Unit => bodegaref1_Extend_L2 k s.1 s.2.1 s.2.2.1 s.2.2.2.1) k (b_1, r_5, i_6, t_7, ())
noncomputable def bodegaref1_Extend_L1 (k : Nat) (b_1 : (List Int)) (r_5 : Int) (i_6 : Int) : Option (((List Int) × Int × Int × Unit) ⊕ ((Int × Unit))) :=
  bif (decide (i_6 < (b_1.length : Int))) then
    bif (decide ((0:Int) ≤ i_6) && decide (i_6 < (b_1.length : Int))) then
      Option.bind (bodegaref1_Extend_L2_it k b_1 (ixor .u64 r_5 (IntKind.u64.wrap (b_1.getD (i_6.toNat) (0:Int)))) i_6 (0:Int)) fun o1 =>
      some (.inl (o1.1, o1.2.1, (IntKind.i64.wrap (o1.2.2.1 + (1:Int))), ()))
    else none
  else
    some (.inr (r_5, ()))
noncomputable def bodegaref1_Extend_L1_it (k : Nat) (b_1 : (List Int)) (r_5 : Int) (i_6 : Int) : Option ((Int × Unit)) :=
  iterO (fun s : (List Int) × Int × Int × Unit => bodegaref1_Extend_L1 k s.1 s.2.1 s.2.2.1) k (b_1, r_5, i_6, ())
noncomputable def bodegaref1_Extend (k : Nat) (sum_0 : Int) (b_1 : (List Int)) : Option (Int × Unit) :=
  Option.bind (bodegaref1_Extend_L1_it k b_1 (ixor .u64 (18446744073709551615:Int) sum_0) (0:Int)) fun o2 =>
  some ((ixor .u64 (18446744073709551615:Int) o2.1), ())
def bodegaref1_Extend_sig : Sig := ⟨[⟨false, (.int .u64), .s, .s⟩, ⟨false, (.list (.int .u8)), .s, .s⟩], [((.int .u64), .s)]⟩
noncomputable def bodegaref1_Extend_te (k : Nat) : TE := ⟨bodegaref1_Extend_sig, fun s => bodegaref1_Extend k s.1 s.2.1⟩
noncomputable def bodegaref1_Extend_C (_k : Nat) : Ctx := cx [] [] []
noncomputable def bodegaref1_Extend_code : Code := Tryz.f130.body.getD .skip
theorem bodegaref1_Extend_tab (k : Nat) : TabOk Tryz.prog (bodegaref1_Extend_C k) := ⟨tab_nil, lay_nil⟩
noncomputable def bodegaref1_Extend_ac (k : Nat) : AC := (.sq .rg (.sq .rg (.sq (.sq .rg (.bk (.lp [(1, .va (.list (.int .u8)) .s), (5, .va (.int .u64) .s), (6, .va (.int .i64) .s)] [(.exit 0, [(5, .va (.int .u64) .s)])] (fun s => bodegaref1_Extend_L1 k s.1 s.2.1 s.2.2.1) (.sq (.sq .rg (.cd .nx .nx)) (.sq (.bk (.sq .rg (.sq .rg (.bk (.lp [(1, .va (.list (.int .u8)) .s), (5, .va (.int .u64) .s), (6, .va (.int .i64) .s), (7, .va (.int .i64) .s)] [(.exit 2, [(1, .va (.list (.int .u8)) .s), (5, .va (.int .u64) .s), (6, .va (.int .i64) .s)])] (fun s => bodegaref1_Extend_L2 k s.1 s.2.1 s.2.2.1 s.2.2.2.1) (.sq (.sq .rg (.cd .nx .nx)) (.sq (.bk (.sq .rg (.sq .rg (.sq .rg (.cd .rg .nx))))) .rg))))))) .rg))))) (.sq .rg .nx))))
theorem bodegaref1_Extend_fix (k : Nat) : acFix (bodegaref1_Extend_C k) k 38 (bodegaref1_Extend_ac k) bodegaref1_Extend_code = bodegaref1_Extend_ac k := by kernel_rfl
theorem bodegaref1_Extend_eq (k : Nat) (s : bodegaref1_Extend_sig.S) : fnEv (bodegaref1_Extend_C k) k bodegaref1_Extend_sig Tryz.f130 bodegaref1_Extend_code (bodegaref1_Extend_ac k) s = (bodegaref1_Extend_te k).F s := by kernel_rfl
theorem bodegaref1_Extend_ok (k : Nat) : CallOk Tryz.prog 130 (bodegaref1_Extend_te k) :=
  fn_ok (C := bodegaref1_Extend_C k) (code := bodegaref1_Extend_code) (g := bodegaref1_Extend_sig) (k := k) (Fn := (bodegaref1_Extend_te k).F) mixed (tysOk _ _ _) (eqsOk _ _ _) (bodegaref1_Extend_tab k) Tryz.func130 (by kernel_rfl) (by kernel_rfl) (of_decide_eq_true (by kernel_rfl)) (by kernel_rfl) (by kernel_rfl) (by kernel_rfl)
    (fun s q h => ⟨bodegaref1_Extend_ac k, ok_of_fix _ _ (bodegaref1_Extend_fix k), (bodegaref1_Extend_eq k s).trans h⟩)

/-! #### bodega/bodegaref1.Words -/
noncomputable def bodegaref1_Words_L1 (k : Nat) (l_0 : (List Int)) (t_3 : Int) (i_4 : Int) : Option (((List Int) × Int × Int × Unit) ⊕ ((Int × Unit))) :=
  bif (decide (i_4 < (l_0.length : Int))) then
    bif (decide ((0:Int) ≤ i_4) && decide (i_4 < (l_0.length : Int))) then
      Option.bind (bodegaref1_Little k (l_0.getD (i_4.toNat) (0:Int))) fun r1 =>
      Option.bind (bodegaref1_Extend k t_3 r1.1) fun r2 =>
      some (.inl (l_0, r2.1, (IntKind.i64.wrap (i_4 + (1:Int))), ()))
    else none
  else
    some (.inr (t_3, ()))
noncomputable def bodegaref1_Words_L1_it (k : Nat) (l_0 : (List Int)) (t_3 : Int) (i_4 : Int) : Option ((Int × Unit)) :=
  iterO (fun s : (List Int) × Int × Int × Unit => bodegaref1_Words_L1 k s.1 s.2.1 s.2.2.1) k (l_0, t_3, i_4, ())
noncomputable def bodegaref1_Words (k : Nat) (l_0 : (List Int)) : Option (Int × Unit) :=
  Option.bind (bodegaref1_Words_L1_it k l_0 (0:Int) (0:Int)) fun o3 =>
  some (o3.1, ())
def bodegaref1_Words_sig : Sig := ⟨[⟨false, (.list (.int .u64)), .s, .s⟩], [((.int .u64), .s)]⟩
noncomputable def bodegaref1_Words_te (k : Nat) : TE := ⟨bodegaref1_Words_sig, fun s => bodegaref1_Words k s.1⟩
noncomputable def bodegaref1_Words_C (k : Nat) : Ctx := cx [(130, bodegaref1_Extend_te k), (131, bodegaref1_Little_te k)] [] []
noncomputable def bodegaref1_Words_code : Code := Tryz.f125.body.getD .skip
theorem bodegaref1_Words_tab (k : Nat) : TabOk Tryz.prog (bodegaref1_Words_C k) := ⟨tab_cons (bodegaref1_Extend_ok k) (tab_cons (bodegaref1_Little_ok k) (tab_nil)), lay_nil⟩
noncomputable def bodegaref1_Words_ac (k : Nat) : AC := (.sq .rg (.sq .rg (.sq (.sq .rg (.bk (.lp [(0, .va (.list (.int .u64)) .s), (3, .va (.int .u64) .s), (4, .va (.int .i64) .s)] [(.exit 0, [(3, .va (.int .u64) .s)])] (fun s => bodegaref1_Words_L1 k s.1 s.2.1 s.2.2.1) (.sq (.sq .rg (.cd .nx .nx)) (.sq (.bk .rg) .rg))))) (.sq .rg .nx))))
theorem bodegaref1_Words_fix (k : Nat) : acFix (bodegaref1_Words_C k) k 19 (bodegaref1_Words_ac k) bodegaref1_Words_code = bodegaref1_Words_ac k := by kernel_rfl
theorem bodegaref1_Words_eq (k : Nat) (s : bodegaref1_Words_sig.S) : fnEv (bodegaref1_Words_C k) k bodegaref1_Words_sig Tryz.f125 bodegaref1_Words_code (bodegaref1_Words_ac k) s = (bodegaref1_Words_te k).F s := by kernel_rfl
theorem bodegaref1_Words_ok (k : Nat) : CallOk Tryz.prog 125 (bodegaref1_Words_te k) :=
  fn_ok (C := bodegaref1_Words_C k) (code := bodegaref1_Words_code) (g := bodegaref1_Words_sig) (k := k) (Fn := (bodegaref1_Words_te k).F) mixed (tysOk _ _ _) (eqsOk _ _ _) (bodegaref1_Words_tab k) Tryz.func125 (by kernel_rfl) (by kernel_rfl) (of_decide_eq_true (by kernel_rfl)) (by kernel_rfl) (by kernel_rfl) (by kernel_rfl)
    (fun s q h => ⟨bodegaref1_Words_ac k, ok_of_fix _ _ (bodegaref1_Words_fix k), (bodegaref1_Words_eq k s).trans h⟩)

/-! #### bodega/bodegaref4.Body -/
noncomputable def bodegaref4_Body_L2 (_k : Nat) (r_1 : TRecord) (l_3 : (List Int)) (i_4 : Int) (t_5 : Int) : Option ((TRecord × (List Int) × Int × Int × Unit) ⊕ ((TRecord × (List Int) × Int × Unit))) :=
  bif (decide (t_5 < (7:Int))) then
    bif (decide ((0:Int) ≤ i_4) && decide (i_4 < (r_1.2.1.length : Int))) then
      bif (decide ((0:Int) ≤ t_5) && decide (t_5 < (7:Int))) then
        bif (decide (l_3.length + [((r_1.2.1.getD (i_4.toNat) ((0:Int), (0:Int), (List.replicate 7 (0:Int)), ())).2.2.1.getD (t_5.toNat) (0:Int))].length < 1073741824)) then
          some (.inl (r_1, (l_3 ++ [((r_1.2.1.getD (i_4.toNat) ((0:Int), (0:Int), (List.replicate 7 (0:Int)), ())).2.2.1.getD (t_5.toNat) (0:Int))]), i_4, (IntKind.i64.wrap (t_5 + (1:Int))), ()))
        else none
      else none
    else none
  else
    some (.inr (r_1, l_3, i_4, ()))
noncomputable def bodegaref4_Body_L2_it (k : Nat) (r_1 : TRecord) (l_3 : (List Int)) (i_4 : Int) (t_5 : Int) : Option ((TRecord × (List Int) × Int × Unit)) :=
  iterO (fun s : TRecord × (List Int) × Int × Int × Unit => bodegaref4_Body_L2 k s.1 s.2.1 s.2.2.1 s.2.2.2.1) k (r_1, l_3, i_4, t_5, ())
noncomputable def bodegaref4_Body_L1 (k : Nat) (r_1 : TRecord) (l_3 : (List Int)) (i_4 : Int) : Option ((TRecord × (List Int) × Int × Unit) ⊕ (((List Int) × Unit))) :=
  bif (decide (i_4 < (r_1.2.1.length : Int))) then
    bif (decide ((0:Int) ≤ i_4) && decide (i_4 < (r_1.2.1.length : Int))) then
      bif (decide ((0:Int) ≤ i_4) && decide (i_4 < (r_1.2.1.length : Int))) then
        bif (decide (l_3.length + [(IntKind.u64.wrap (r_1.2.1.getD (i_4.toNat) ((0:Int), (0:Int), (List.replicate 7 (0:Int)), ())).1), (r_1.2.1.getD (i_4.toNat) ((0:Int), (0:Int), (List.replicate 7 (0:Int)), ())).2.1].length < 1073741824)) then
          Option.bind (bodegaref4_Body_L2_it k r_1 (l_3 ++ [(IntKind.u64.wrap (r_1.2.1.getD (i_4.toNat) ((0:Int), (0:Int), (List.replicate 7 (0:Int)), ())).1), (r_1.2.1.getD (i_4.toNat) ((0:Int), (0:Int), (List.replicate 7 (0:Int)), ())).2.1]) i_4 (0:Int)) fun o2 =>
          some (.inl (o2.1, o2.2.1, (IntKind.i64.wrap (o2.2.2.1 + (1:Int))), ()))
        else none
      else none
    else none
  else
    some (.inr (l_3, ()))
noncomputable def bodegaref4_Body_L1_it (k : Nat) (r_1 : TRecord) (l_3 : (List Int)) (i_4 : Int) : Option (((List Int) × Unit)) :=
  iterO (fun s : TRecord × (List Int) × Int × Unit => bodegaref4_Body_L1 k s.1 s.2.1 s.2.2.1) k (r_1, l_3, i_4, ())
noncomputable def bodegaref4_Body (k : Nat) (r_0 : TRecord) : Option ((List Int) × Unit) :=
  Option.bind (bodegaref4_ValidRecord k r_0 (256:Int)) fun r1 =>
  bif (!(decide (r1.1 = (0:Int)))) then
    some (([] : (List Int)), ())
  else
    Option.bind (bodegaref4_Body_L1_it k r_0 [(IntKind.u64.wrap r_0.1), (IntKind.u64.wrap (r_0.2.1.length : Int))] (0:Int)) fun o3 =>
    Option.bind (bodegaref1_Words k o3.1) fun r4 =>
    bif (decide (o3.1.length + [r4.1].length < 1073741824)) then
      some ((o3.1 ++ [r4.1]), ())
    else none
def bodegaref4_Body_sig : Sig := ⟨[⟨false, y14, .s, .s⟩], [((.list (.int .u64)), (.o .s))]⟩
noncomputable def bodegaref4_Body_te (k : Nat) : TE := ⟨bodegaref4_Body_sig, fun s => bodegaref4_Body k s.1⟩
noncomputable def bodegaref4_Body_C (k : Nat) : Ctx := cx [(124, bodegaref4_ValidRecord_te k), (125, bodegaref1_Words_te k)] [] []
noncomputable def bodegaref4_Body_code : Code := Tryz.f115.body.getD .skip
theorem bodegaref4_Body_tab (k : Nat) : TabOk Tryz.prog (bodegaref4_Body_C k) := ⟨tab_cons (bodegaref4_ValidRecord_ok k) (tab_cons (bodegaref1_Words_ok k) (tab_nil)), lay_nil⟩
noncomputable def bodegaref4_Body_ac (k : Nat) : AC := (.sq .rg (.sq (.sq .rg (.cd (.sq .rg .nx) .nx)) (.sq .rg (.sq (.sq .rg (.bk (.lp [(1, .bo y14 .s), (3, .va (.list (.int .u64)) (.o .s)), (4, .va (.int .i64) .s)] [(.exit 0, [(3, .va (.list (.int .u64)) (.o .s))])] (fun s => bodegaref4_Body_L1 k s.1 s.2.1 s.2.2.1) (.sq (.sq .rg (.cd .nx .nx)) (.sq (.bk (.sq .rg (.sq .rg (.bk (.lp [(1, .bo y14 .s), (3, .va (.list (.int .u64)) (.o .s)), (4, .va (.int .i64) .s), (5, .va (.int .i64) .s)] [(.exit 2, [(1, .bo y14 .s), (3, .va (.list (.int .u64)) (.o .s)), (4, .va (.int .i64) .s)])] (fun s => bodegaref4_Body_L2 k s.1 s.2.1 s.2.2.1 s.2.2.2.1) (.sq (.sq .rg (.cd .nx .nx)) (.sq (.bk .rg) .rg))))))) .rg))))) (.sq .rg .nx)))))
theorem bodegaref4_Body_fix (k : Nat) : acFix (bodegaref4_Body_C k) k 60 (bodegaref4_Body_ac k) bodegaref4_Body_code = bodegaref4_Body_ac k := by kernel_rfl
theorem bodegaref4_Body_eq (k : Nat) (s : bodegaref4_Body_sig.S) : fnEv (bodegaref4_Body_C k) k bodegaref4_Body_sig Tryz.f115 bodegaref4_Body_code (bodegaref4_Body_ac k) s = (bodegaref4_Body_te k).F s := by kernel_rfl
theorem bodegaref4_Body_ok (k : Nat) : CallOk Tryz.prog 115 (bodegaref4_Body_te k) :=
  fn_ok (C := bodegaref4_Body_C k) (code := bodegaref4_Body_code) (g := bodegaref4_Body_sig) (k := k) (Fn := (bodegaref4_Body_te k).F) mixed (tysOk _ _ _) (eqsOk _ _ _) (bodegaref4_Body_tab k) Tryz.func115 (by kernel_rfl) (by kernel_rfl) (of_decide_eq_true (by kernel_rfl)) (by kernel_rfl) (by kernel_rfl) (by kernel_rfl)
    (fun s q h => ⟨bodegaref4_Body_ac k, ok_of_fix _ _ (bodegaref4_Body_fix k), (bodegaref4_Body_eq k s).trans h⟩)

/-! #### bodega/bodegaref1.MarkAt -/
noncomputable def bodegaref1_MarkAt (k : Nat) (c_0 : Int) : Option (Int × Unit) :=
  Option.bind (bodegaref1_Client k c_0) fun r1 =>
  bif (!r1.1) then
    some ((-1:Int), ())
  else
    some ((IntKind.i64.wrap ((IntKind.i64.wrap ((6:Int) + (IntKind.i64.wrap (c_0 * (15:Int))))) * (8:Int))), ())
def bodegaref1_MarkAt_sig : Sig := ⟨[⟨false, (.int .i64), .s, .s⟩], [((.int .i64), .s)]⟩
noncomputable def bodegaref1_MarkAt_te (k : Nat) : TE := ⟨bodegaref1_MarkAt_sig, fun s => bodegaref1_MarkAt k s.1⟩
noncomputable def bodegaref1_MarkAt_C (k : Nat) : Ctx := cx [(32, bodegaref1_Client_te k)] [] []
noncomputable def bodegaref1_MarkAt_code : Code := Tryz.f118.body.getD .skip
theorem bodegaref1_MarkAt_tab (k : Nat) : TabOk Tryz.prog (bodegaref1_MarkAt_C k) := ⟨tab_cons (bodegaref1_Client_ok k) (tab_nil), lay_nil⟩
noncomputable def bodegaref1_MarkAt_ac (_k : Nat) : AC := (.sq .rg (.sq (.sq .rg (.cd (.sq .rg .nx) .nx)) (.sq .rg .nx)))
theorem bodegaref1_MarkAt_fix (k : Nat) : acFix (bodegaref1_MarkAt_C k) k 10 (bodegaref1_MarkAt_ac k) bodegaref1_MarkAt_code = bodegaref1_MarkAt_ac k := by kernel_rfl
theorem bodegaref1_MarkAt_eq (k : Nat) (s : bodegaref1_MarkAt_sig.S) : fnEv (bodegaref1_MarkAt_C k) k bodegaref1_MarkAt_sig Tryz.f118 bodegaref1_MarkAt_code (bodegaref1_MarkAt_ac k) s = (bodegaref1_MarkAt_te k).F s := by kernel_rfl
theorem bodegaref1_MarkAt_ok (k : Nat) : CallOk Tryz.prog 118 (bodegaref1_MarkAt_te k) :=
  fn_ok (C := bodegaref1_MarkAt_C k) (code := bodegaref1_MarkAt_code) (g := bodegaref1_MarkAt_sig) (k := k) (Fn := (bodegaref1_MarkAt_te k).F) mixed (tysOk _ _ _) (eqsOk _ _ _) (bodegaref1_MarkAt_tab k) Tryz.func118 (by kernel_rfl) (by kernel_rfl) (of_decide_eq_true (by kernel_rfl)) (by kernel_rfl) (by kernel_rfl) (by kernel_rfl)
    (fun s q h => ⟨bodegaref1_MarkAt_ac k, ok_of_fix _ _ (bodegaref1_MarkAt_fix k), (bodegaref1_MarkAt_eq k s).trans h⟩)

/-! #### bodega/bodegaref1.BodyAt -/
noncomputable def bodegaref1_BodyAt (k : Nat) (c_0 : Int) : Option (Int × Unit) :=
  Option.bind (bodegaref1_Client k c_0) fun r1 =>
  bif (!r1.1) then
    some ((-1:Int), ())
  else
    Option.bind (bodegaref1_MarkAt k c_0) fun r2 =>
    some ((IntKind.i64.wrap (r2.1 + (8:Int))), ())
def bodegaref1_BodyAt_sig : Sig := ⟨[⟨false, (.int .i64), .s, .s⟩], [((.int .i64), .s)]⟩
noncomputable def bodegaref1_BodyAt_te (k : Nat) : TE := ⟨bodegaref1_BodyAt_sig, fun s => bodegaref1_BodyAt k s.1⟩
noncomputable def bodegaref1_BodyAt_C (k : Nat) : Ctx := cx [(32, bodegaref1_Client_te k), (118, bodegaref1_MarkAt_te k)] [] []
noncomputable def bodegaref1_BodyAt_code : Code := Tryz.f116.body.getD .skip
theorem bodegaref1_BodyAt_tab (k : Nat) : TabOk Tryz.prog (bodegaref1_BodyAt_C k) := ⟨tab_cons (bodegaref1_Client_ok k) (tab_cons (bodegaref1_MarkAt_ok k) (tab_nil)), lay_nil⟩
noncomputable def bodegaref1_BodyAt_ac (_k : Nat) : AC := (.sq .rg (.sq (.sq .rg (.cd (.sq .rg .nx) .nx)) (.sq .rg .nx)))
theorem bodegaref1_BodyAt_fix (k : Nat) : acFix (bodegaref1_BodyAt_C k) k 9 (bodegaref1_BodyAt_ac k) bodegaref1_BodyAt_code = bodegaref1_BodyAt_ac k := by kernel_rfl
theorem bodegaref1_BodyAt_eq (k : Nat) (s : bodegaref1_BodyAt_sig.S) : fnEv (bodegaref1_BodyAt_C k) k bodegaref1_BodyAt_sig Tryz.f116 bodegaref1_BodyAt_code (bodegaref1_BodyAt_ac k) s = (bodegaref1_BodyAt_te k).F s := by kernel_rfl
theorem bodegaref1_BodyAt_ok (k : Nat) : CallOk Tryz.prog 116 (bodegaref1_BodyAt_te k) :=
  fn_ok (C := bodegaref1_BodyAt_C k) (code := bodegaref1_BodyAt_code) (g := bodegaref1_BodyAt_sig) (k := k) (Fn := (bodegaref1_BodyAt_te k).F) mixed (tysOk _ _ _) (eqsOk _ _ _) (bodegaref1_BodyAt_tab k) Tryz.func116 (by kernel_rfl) (by kernel_rfl) (of_decide_eq_true (by kernel_rfl)) (by kernel_rfl) (by kernel_rfl) (by kernel_rfl)
    (fun s q h => ⟨bodegaref1_BodyAt_ac k, ok_of_fix _ _ (bodegaref1_BodyAt_fix k), (bodegaref1_BodyAt_eq k s).trans h⟩)

/-! #### bodega/bodegaref1.Mark -/
noncomputable def bodegaref1_Mark (_k : Nat) (seq_0 : Int) : Option (Int × Int × Unit) :=
  bif (bif (decide (seq_0 < (1:Int))) then true else (decide ((1073741824:Int) ≤ seq_0))) then
    some ((0:Int), (2:Int), ())
  else
    some ((ior .u64 (ishl .u64 (IntKind.u64.wrap seq_0) (2:Int)) (2:Int)), (0:Int), ())
def bodegaref1_Mark_sig : Sig := ⟨[⟨false, (.int .i64), .s, .s⟩], [((.int .u64), .s), ((.int .i64), .s)]⟩
noncomputable def bodegaref1_Mark_te (k : Nat) : TE := ⟨bodegaref1_Mark_sig, fun s => bodegaref1_Mark k s.1⟩
noncomputable def bodegaref1_Mark_C (_k : Nat) : Ctx := cx [] [] []
noncomputable def bodegaref1_Mark_code : Code := Tryz.f117.body.getD .skip
theorem bodegaref1_Mark_tab (k : Nat) : TabOk Tryz.prog (bodegaref1_Mark_C k) := ⟨tab_nil, lay_nil⟩
noncomputable def bodegaref1_Mark_ac (_k : Nat) : AC := (.sq .rg (.sq (.sq .rg (.cd (.sq .rg .nx) .nx)) (.sq .rg .nx)))
theorem bodegaref1_Mark_fix (k : Nat) : acFix (bodegaref1_Mark_C k) k 14 (bodegaref1_Mark_ac k) bodegaref1_Mark_code = bodegaref1_Mark_ac k := by kernel_rfl
theorem bodegaref1_Mark_eq (k : Nat) (s : bodegaref1_Mark_sig.S) : fnEv (bodegaref1_Mark_C k) k bodegaref1_Mark_sig Tryz.f117 bodegaref1_Mark_code (bodegaref1_Mark_ac k) s = (bodegaref1_Mark_te k).F s := by kernel_rfl
theorem bodegaref1_Mark_ok (k : Nat) : CallOk Tryz.prog 117 (bodegaref1_Mark_te k) :=
  fn_ok (C := bodegaref1_Mark_C k) (code := bodegaref1_Mark_code) (g := bodegaref1_Mark_sig) (k := k) (Fn := (bodegaref1_Mark_te k).F) mixed (tysOk _ _ _) (eqsOk _ _ _) (bodegaref1_Mark_tab k) Tryz.func117 (by kernel_rfl) (by kernel_rfl) (of_decide_eq_true (by kernel_rfl)) (by kernel_rfl) (by kernel_rfl) (by kernel_rfl)
    (fun s q h => ⟨bodegaref1_Mark_ac k, ok_of_fix _ _ (bodegaref1_Mark_fix k), (bodegaref1_Mark_eq k s).trans h⟩)

end Go.Proofs.YtkgjdglkkoabmaaGreat.N

set_option maxRecDepth 1000000
namespace Go.Proofs.YtkgjdglkkoabmaaGreat.N
open Go.VL Go.Proofs

/-! #### bodega/bodegaref1.PageAt -/
noncomputable def bodegaref1_PageAt (_k : Nat) (line_0 : Int) : Option (Int × Unit) :=
  bif (bif (decide (line_0 < (96:Int))) then true else (decide ((256:Int) ≤ line_0))) then
    some ((-1:Int), ())
  else
    some ((IntKind.i64.wrap (line_0 * (8:Int))), ())
def bodegaref1_PageAt_sig : Sig := ⟨[⟨false, (.int .i64), .s, .s⟩], [((.int .i64), .s)]⟩
noncomputable def bodegaref1_PageAt_te (k : Nat) : TE := ⟨bodegaref1_PageAt_sig, fun s => bodegaref1_PageAt k s.1⟩
noncomputable def bodegaref1_PageAt_C (_k : Nat) : Ctx := cx [] [] []
noncomputable def bodegaref1_PageAt_code : Code := Tryz.f100.body.getD .skip
theorem bodegaref1_PageAt_tab (k : Nat) : TabOk Tryz.prog (bodegaref1_PageAt_C k) := ⟨tab_nil, lay_nil⟩
noncomputable def bodegaref1_PageAt_ac (_k : Nat) : AC := (.sq .rg (.sq (.sq .rg (.cd (.sq .rg .nx) .nx)) (.sq .rg .nx)))
theorem bodegaref1_PageAt_fix (k : Nat) : acFix (bodegaref1_PageAt_C k) k 11 (bodegaref1_PageAt_ac k) bodegaref1_PageAt_code = bodegaref1_PageAt_ac k := by kernel_rfl
theorem bodegaref1_PageAt_eq (k : Nat) (s : bodegaref1_PageAt_sig.S) : fnEv (bodegaref1_PageAt_C k) k bodegaref1_PageAt_sig Tryz.f100 bodegaref1_PageAt_code (bodegaref1_PageAt_ac k) s = (bodegaref1_PageAt_te k).F s := by kernel_rfl
theorem bodegaref1_PageAt_ok (k : Nat) : CallOk Tryz.prog 100 (bodegaref1_PageAt_te k) :=
  fn_ok (C := bodegaref1_PageAt_C k) (code := bodegaref1_PageAt_code) (g := bodegaref1_PageAt_sig) (k := k) (Fn := (bodegaref1_PageAt_te k).F) mixed (tysOk _ _ _) (eqsOk _ _ _) (bodegaref1_PageAt_tab k) Tryz.func100 (by kernel_rfl) (by kernel_rfl) (of_decide_eq_true (by kernel_rfl)) (by kernel_rfl) (by kernel_rfl) (by kernel_rfl)
    (fun s q h => ⟨bodegaref1_PageAt_ac k, ok_of_fix _ _ (bodegaref1_PageAt_fix k), (bodegaref1_PageAt_eq k s).trans h⟩)

/-! #### bodega/bodegaref1.Lock -/
noncomputable def bodegaref1_Lock (k : Nat) (h_0 : Int) (client_1 : Int) : Option (Int × Int × Unit) :=
  Option.bind (bodegaref1_Client k client_1) fun r1 =>
  bif (!r1.1) then
    some ((0:Int), (1:Int), ())
  else
    Option.bind (bodegaref1_Unlocked k h_0) fun r2 =>
    bif (!r2.1) then
      some ((0:Int), (3:Int), ())
    else
      some ((ior .u64 h_0 (IntKind.u64.wrap (IntKind.i64.wrap (client_1 + (1:Int))))), (0:Int), ())
def bodegaref1_Lock_sig : Sig := ⟨[⟨false, (.int .u64), .s, .s⟩, ⟨false, (.int .i64), .s, .s⟩], [((.int .u64), .s), ((.int .i64), .s)]⟩
noncomputable def bodegaref1_Lock_te (k : Nat) : TE := ⟨bodegaref1_Lock_sig, fun s => bodegaref1_Lock k s.1 s.2.1⟩
noncomputable def bodegaref1_Lock_C (k : Nat) : Ctx := cx [(32, bodegaref1_Client_te k), (129, bodegaref1_Unlocked_te k)] [] []
noncomputable def bodegaref1_Lock_code : Code := Tryz.f126.body.getD .skip
theorem bodegaref1_Lock_tab (k : Nat) : TabOk Tryz.prog (bodegaref1_Lock_C k) := ⟨tab_cons (bodegaref1_Client_ok k) (tab_cons (bodegaref1_Unlocked_ok k) (tab_nil)), lay_nil⟩
noncomputable def bodegaref1_Lock_ac (_k : Nat) : AC := (.sq .rg (.sq (.sq .rg (.cd (.sq .rg .nx) .nx)) (.sq (.sq .rg (.cd (.sq .rg .nx) .nx)) (.sq .rg .nx))))
theorem bodegaref1_Lock_fix (k : Nat) : acFix (bodegaref1_Lock_C k) k 17 (bodegaref1_Lock_ac k) bodegaref1_Lock_code = bodegaref1_Lock_ac k := by kernel_rfl
theorem bodegaref1_Lock_eq (k : Nat) (s : bodegaref1_Lock_sig.S) : fnEv (bodegaref1_Lock_C k) k bodegaref1_Lock_sig Tryz.f126 bodegaref1_Lock_code (bodegaref1_Lock_ac k) s = (bodegaref1_Lock_te k).F s := by kernel_rfl
theorem bodegaref1_Lock_ok (k : Nat) : CallOk Tryz.prog 126 (bodegaref1_Lock_te k) :=
  fn_ok (C := bodegaref1_Lock_C k) (code := bodegaref1_Lock_code) (g := bodegaref1_Lock_sig) (k := k) (Fn := (bodegaref1_Lock_te k).F) mixed (tysOk _ _ _) (eqsOk _ _ _) (bodegaref1_Lock_tab k) Tryz.func126 (by kernel_rfl) (by kernel_rfl) (of_decide_eq_true (by kernel_rfl)) (by kernel_rfl) (by kernel_rfl) (by kernel_rfl)
    (fun s q h => ⟨bodegaref1_Lock_ac k, ok_of_fix _ _ (bodegaref1_Lock_fix k), (bodegaref1_Lock_eq k s).trans h⟩)

/-! #### bodega/bodegaref4.Locked -/
noncomputable def bodegaref4_Locked (k : Nat) (t_0 : TPage) (client_1 : Int) : Option (Int × Int × Unit) :=
  Option.bind (bodegaref1_Lock k t_0.2.1 client_1) fun r1 =>
  some (r1.1, r1.2.1, ())
def bodegaref4_Locked_sig : Sig := ⟨[⟨false, y6, .s, .s⟩, ⟨false, (.int .i64), .s, .s⟩], [((.int .u64), .s), ((.int .i64), .s)]⟩
noncomputable def bodegaref4_Locked_te (k : Nat) : TE := ⟨bodegaref4_Locked_sig, fun s => bodegaref4_Locked k s.1 s.2.1⟩
noncomputable def bodegaref4_Locked_C (k : Nat) : Ctx := cx [(126, bodegaref1_Lock_te k)] [] []
noncomputable def bodegaref4_Locked_code : Code := Tryz.f119.body.getD .skip
theorem bodegaref4_Locked_tab (k : Nat) : TabOk Tryz.prog (bodegaref4_Locked_C k) := ⟨tab_cons (bodegaref1_Lock_ok k) (tab_nil), lay_nil⟩
noncomputable def bodegaref4_Locked_ac (_k : Nat) : AC := (.sq .rg (.sq .rg .nx))
theorem bodegaref4_Locked_fix (k : Nat) : acFix (bodegaref4_Locked_C k) k 12 (bodegaref4_Locked_ac k) bodegaref4_Locked_code = bodegaref4_Locked_ac k := by kernel_rfl
theorem bodegaref4_Locked_eq (k : Nat) (s : bodegaref4_Locked_sig.S) : fnEv (bodegaref4_Locked_C k) k bodegaref4_Locked_sig Tryz.f119 bodegaref4_Locked_code (bodegaref4_Locked_ac k) s = (bodegaref4_Locked_te k).F s := by kernel_rfl
theorem bodegaref4_Locked_ok (k : Nat) : CallOk Tryz.prog 119 (bodegaref4_Locked_te k) :=
  fn_ok (C := bodegaref4_Locked_C k) (code := bodegaref4_Locked_code) (g := bodegaref4_Locked_sig) (k := k) (Fn := (bodegaref4_Locked_te k).F) mixed (tysOk _ _ _) (eqsOk _ _ _) (bodegaref4_Locked_tab k) Tryz.func119 (by kernel_rfl) (by kernel_rfl) (of_decide_eq_true (by kernel_rfl)) (by kernel_rfl) (by kernel_rfl) (by kernel_rfl)
    (fun s q h => ⟨bodegaref4_Locked_ac k, ok_of_fix _ _ (bodegaref4_Locked_fix k), (bodegaref4_Locked_eq k s).trans h⟩)

/-! #### bodega/bodegahand.log -/
noncomputable def bodegahand_log_L1 (k : Nat) (n_0 : TNode) (c_2 : Int) (t_5 : TPoke) (r_8 : TRecord) (body_9 : (List Int)) (i_10 : Int) : Option ((TNode × Int × TPoke × TRecord × (List Int) × Int × Unit) ⊕ ((TNode × Int × TPoke × TRecord × Unit))) :=
  bif (decide (i_10 < (body_9.length : Int))) then
    Option.bind (bodegaref1_BodyAt k c_2) fun r4 =>
    bif (decide ((0:Int) ≤ i_10) && decide (i_10 < (body_9.length : Int))) then
      bif (decide ((0:Int) ≤ (IntKind.i64.wrap (r4.1 + i_10))) && decide ((IntKind.i64.wrap (r4.1 + i_10)) < (n_0.1.length : Int))) then
        some (.inl (((n_0.1.set ((IntKind.i64.wrap (r4.1 + i_10)).toNat) (body_9.getD (i_10.toNat) (0:Int))), n_0.2), c_2, t_5, r_8, body_9, (IntKind.i64.wrap (i_10 + (1:Int))), ()))
      else none
    else none
  else
    some (.inr (n_0, c_2, t_5, r_8, ()))
noncomputable def bodegahand_log_L1_it (k : Nat) (n_0 : TNode) (c_2 : Int) (t_5 : TPoke) (r_8 : TRecord) (body_9 : (List Int)) (i_10 : Int) : Option ((TNode × Int × TPoke × TRecord × Unit)) :=
  iterO (fun s : TNode × Int × TPoke × TRecord × (List Int) × Int × Unit => bodegahand_log_L1 k s.1 s.2.1 s.2.2.1 s.2.2.2.1 s.2.2.2.2.1 s.2.2.2.2.2.1) k (n_0, c_2, t_5, r_8, body_9, i_10, ())
noncomputable def bodegahand_log_J1 (k : Nat) (n_0 : TNode) (c_2 : Int) (t_5 : TPoke) (r_8 : TRecord) (t_52 : Bool) : Option ((TNode × Int × TPoke × TRecord × Unit)) :=
  bif t_52 then
    Option.bind (bodegaref1_MarkAt k c_2) fun r7 =>
    Option.bind (bodegahand_Pick k (IntKind.i64.wrap (Int.tdiv t_5.2.2.2.2.1 (7:Int))) (5:Int)) fun r8 =>
    Option.bind (bodegaref1_Mark k (IntKind.i64.wrap (r_8.1 + (IntKind.i64.wrap (Int.tdiv r8.1 (4:Int)))))) fun r9 =>
    bif (decide ((0:Int) ≤ r7.1) && decide (r7.1 < (n_0.1.length : Int))) then
      some (((n_0.1.set (r7.1.toNat) r9.1), n_0.2), c_2, t_5, r_8, ())
    else none
  else
    some (n_0, c_2, t_5, r_8, ())
noncomputable def bodegahand_log_L2 (k : Nat) (n_0 : TNode) (c_2 : Int) (t_5 : TPoke) (r_8 : TRecord) (i_11 : Int) : Option ((TNode × Int × TPoke × TRecord × Int × Unit) ⊕ ((TNode × Unit))) :=
  Option.bind (bif (decide (i_11 < (r_8.2.1.length : Int))) then bodegahand_Pick k (IntKind.i64.wrap (Int.tdiv t_5.2.2.2.2.1 (35:Int))) (3:Int) else some ((0:Int), ())) fun r11 =>
  bif (bif (decide (i_11 < (r_8.2.1.length : Int))) then (decide ((0:Int) < r11.1)) else false) then
    bif (decide ((0:Int) ≤ i_11) && decide (i_11 < (r_8.2.1.length : Int))) then
      Option.bind (bodegaref1_PageAt k (r_8.2.1.getD (i_11.toNat) ((0:Int), (0:Int), (List.replicate 7 (0:Int)), ())).1) fun r12 =>
      bif (decide ((0:Int) ≤ i_11) && decide (i_11 < (r_8.2.1.length : Int))) then
        Option.bind (bodegaref4_Locked k (r_8.2.1.getD (i_11.toNat) ((0:Int), (0:Int), (List.replicate 7 (0:Int)), ())) c_2) fun r13 =>
        bif (decide ((0:Int) ≤ r12.1) && decide (r12.1 < (n_0.1.length : Int))) then
          some (.inl (((n_0.1.set (r12.1.toNat) r13.1), n_0.2), c_2, t_5, r_8, (IntKind.i64.wrap (i_11 + (1:Int))), ()))
        else none
      else none
    else none
  else
    some (.inr (n_0, ()))
noncomputable def bodegahand_log_L2_it (k : Nat) (n_0 : TNode) (c_2 : Int) (t_5 : TPoke) (r_8 : TRecord) (i_11 : Int) : Option ((TNode × Unit)) :=
  iterO (fun s : TNode × Int × TPoke × TRecord × Int × Unit => bodegahand_log_L2 k s.1 s.2.1 s.2.2.1 s.2.2.2.1 s.2.2.2.2.1) k (n_0, c_2, t_5, r_8, i_11, ())
noncomputable def bodegahand_log (k : Nat) (n_0 : TNode) (t_1 : TPoke) (c_2 : Int) (lines_3 : Int) : Option (TNode × Unit) :=
  Option.bind (bodegahand_Pick k t_1.2.2.2.2.1 (7:Int)) fun r1 =>
  Option.bind (bodegahand_Pages k [t_1.2.2.2.1, (IntKind.i64.wrap (Int.tdiv t_1.2.2.2.1 (5:Int))), (IntKind.i64.wrap (Int.tdiv t_1.2.2.2.1 (7:Int)))] lines_3 (3:Int)) fun r2 =>
  Option.bind (bodegaref4_Body k ((IntKind.i64.wrap (r1.1 + (1:Int))), r2.1, ())) fun r3 =>
  Option.bind (bodegahand_log_L1_it k n_0 c_2 t_1 ((IntKind.i64.wrap (r1.1 + (1:Int))), r2.1, ()) r3.1 (0:Int)) fun o5 =>
  Option.bind (bodegahand_Pick k o5.2.2.1.1 (14:Int)) fun r6 =>
  Option.bind (bodegahand_log_J1 k o5.1 o5.2.1 o5.2.2.1 o5.2.2.2.1 (!(decide (r6.1 = (1:Int))))) fun o10 =>
  Option.bind (bodegahand_log_L2_it k o10.1 o10.2.1 o10.2.2.1 o10.2.2.2.1 (0:Int)) fun o14 =>
  some (o14.1, ())
def bodegahand_log_sig : Sig := ⟨[⟨true, y10, (.p (.o .s) .s), (.p (.o .s) .s)⟩, ⟨false, y11, .s, .s⟩, ⟨false, (.int .i64), .s, .s⟩, ⟨false, (.int .i64), .s, .s⟩], []⟩
noncomputable def bodegahand_log_te (k : Nat) : TE := ⟨bodegahand_log_sig, fun s => bodegahand_log k s.1 s.2.1 s.2.2.1 s.2.2.2.1⟩
noncomputable def bodegahand_log_C (k : Nat) : Ctx := cx [(7, bodegahand_Pick_te k), (100, bodegaref1_PageAt_te k), (114, bodegahand_Pages_te k), (115, bodegaref4_Body_te k), (116, bodegaref1_BodyAt_te k), (117, bodegaref1_Mark_te k), (118, bodegaref1_MarkAt_te k), (119, bodegaref4_Locked_te k)] [] []
noncomputable def bodegahand_log_code : Code := Tryz.f99.body.getD .skip
theorem bodegahand_log_tab (k : Nat) : TabOk Tryz.prog (bodegahand_log_C k) := ⟨tab_cons (bodegahand_Pick_ok k) (tab_cons (bodegaref1_PageAt_ok k) (tab_cons (bodegahand_Pages_ok k) (tab_cons (bodegaref4_Body_ok k) (tab_cons (bodegaref1_BodyAt_ok k) (tab_cons (bodegaref1_Mark_ok k) (tab_cons (bodegaref1_MarkAt_ok k) (tab_cons (bodegaref4_Locked_ok k) (tab_nil)))))))), lay_nil⟩
noncomputable def bodegahand_log_ac (k : Nat) : AC := (.sq .rg (.sq .rg (.sq .rg (.sq (.sq .rg (.bk (.lp [(0, .bo y10 (.p (.o .s) .s)), (2, .va (.int .i64) .s), (5, .bo y11 .s), (8, .bo y14 q2), (9, .va (.list (.int .u64)) (.o .s)), (10, .va (.int .i64) .s)] [(.exit 0, [(0, .bo y10 (.p (.o .s) .s)), (2, .va (.int .i64) .s), (5, .bo y11 .s), (8, .bo y14 q2)])] (fun s => bodegahand_log_L1 k s.1 s.2.1 s.2.2.1 s.2.2.2.1 s.2.2.2.2.1 s.2.2.2.2.2.1) (.sq (.sq .rg (.cd .nx .nx)) (.sq (.bk .rg) .rg))))) (.sq (.sq .rg (.sm [(0, .bo y10 (.p (.o .s) .s)), (2, .va (.int .i64) .s), (5, .bo y11 .s), (8, .bo y14 q2), (52, .va .bool .s)] [(.normal, [(0, .bo y10 (.p (.o .s) .s)), (2, .va (.int .i64) .s), (5, .bo y11 .s), (8, .bo y14 q2)])] (fun s => bodegahand_log_J1 k s.1 s.2.1 s.2.2.1 s.2.2.2.1 s.2.2.2.2.1) (.cd .rg .nx))) (.sq .rg (.bk (.lp [(0, .bo y10 (.p (.o .s) .s)), (2, .va (.int .i64) .s), (5, .bo y11 .s), (8, .bo y14 q2), (11, .va (.int .i64) .s)] [(.exit 2, [(0, .bo y10 (.p (.o .s) .s))])] (fun s => bodegahand_log_L2 k s.1 s.2.1 s.2.2.1 s.2.2.2.1 s.2.2.2.2.1) (.sq (.sq .rg (.cd .nx .nx)) (.sq (.bk .rg) .rg))))))))))
theorem bodegahand_log_fix (k : Nat) : acFix (bodegahand_log_C k) k 108 (bodegahand_log_ac k) bodegahand_log_code = bodegahand_log_ac k := by kernel_rfl
theorem bodegahand_log_eq (k : Nat) (s : bodegahand_log_sig.S) : fnEv (bodegahand_log_C k) k bodegahand_log_sig Tryz.f99 bodegahand_log_code (bodegahand_log_ac k) s = (bodegahand_log_te k).F s := by kernel_rfl
theorem bodegahand_log_ok (k : Nat) : CallOk Tryz.prog 99 (bodegahand_log_te k) :=
  fn_ok (C := bodegahand_log_C k) (code := bodegahand_log_code) (g := bodegahand_log_sig) (k := k) (Fn := (bodegahand_log_te k).F) mixed (tysOk _ _ _) (eqsOk _ _ _) (bodegahand_log_tab k) Tryz.func99 (by kernel_rfl) (by kernel_rfl) (of_decide_eq_true (by kernel_rfl)) (by kernel_rfl) (by kernel_rfl) (by kernel_rfl)
    (fun s q h => ⟨bodegahand_log_ac k, ok_of_fix _ _ (bodegahand_log_fix k), (bodegahand_log_eq k s).trans h⟩)

/-! #### bodega/bodegaref1.TagAt -/
noncomputable def bodegaref1_TagAt (k : Nat) (c_0 : Int) : Option (Int × Unit) :=
  Option.bind (bodegaref1_Client k c_0) fun r1 =>
  bif (!r1.1) then
    some ((-1:Int), ())
  else
    Option.bind (bodegaref1_MarkAt k c_0) fun r2 =>
    some ((IntKind.i64.wrap (r2.1 + (1:Int))), ())
def bodegaref1_TagAt_sig : Sig := ⟨[⟨false, (.int .i64), .s, .s⟩], [((.int .i64), .s)]⟩
noncomputable def bodegaref1_TagAt_te (k : Nat) : TE := ⟨bodegaref1_TagAt_sig, fun s => bodegaref1_TagAt k s.1⟩
noncomputable def bodegaref1_TagAt_C (k : Nat) : Ctx := cx [(32, bodegaref1_Client_te k), (118, bodegaref1_MarkAt_te k)] [] []
noncomputable def bodegaref1_TagAt_code : Code := Tryz.f103.body.getD .skip
theorem bodegaref1_TagAt_tab (k : Nat) : TabOk Tryz.prog (bodegaref1_TagAt_C k) := ⟨tab_cons (bodegaref1_Client_ok k) (tab_cons (bodegaref1_MarkAt_ok k) (tab_nil)), lay_nil⟩
noncomputable def bodegaref1_TagAt_ac (_k : Nat) : AC := (.sq .rg (.sq (.sq .rg (.cd (.sq .rg .nx) .nx)) (.sq .rg .nx)))
theorem bodegaref1_TagAt_fix (k : Nat) : acFix (bodegaref1_TagAt_C k) k 9 (bodegaref1_TagAt_ac k) bodegaref1_TagAt_code = bodegaref1_TagAt_ac k := by kernel_rfl
theorem bodegaref1_TagAt_eq (k : Nat) (s : bodegaref1_TagAt_sig.S) : fnEv (bodegaref1_TagAt_C k) k bodegaref1_TagAt_sig Tryz.f103 bodegaref1_TagAt_code (bodegaref1_TagAt_ac k) s = (bodegaref1_TagAt_te k).F s := by kernel_rfl
theorem bodegaref1_TagAt_ok (k : Nat) : CallOk Tryz.prog 103 (bodegaref1_TagAt_te k) :=
  fn_ok (C := bodegaref1_TagAt_C k) (code := bodegaref1_TagAt_code) (g := bodegaref1_TagAt_sig) (k := k) (Fn := (bodegaref1_TagAt_te k).F) mixed (tysOk _ _ _) (eqsOk _ _ _) (bodegaref1_TagAt_tab k) Tryz.func103 (by kernel_rfl) (by kernel_rfl) (of_decide_eq_true (by kernel_rfl)) (by kernel_rfl) (by kernel_rfl) (by kernel_rfl)
    (fun s q h => ⟨bodegaref1_TagAt_ac k, ok_of_fix _ _ (bodegaref1_TagAt_fix k), (bodegaref1_TagAt_eq k s).trans h⟩)

/-! #### bodega/bodegaref1.Tag -/
noncomputable def bodegaref1_Tag (k : Nat) (inc_0 : Int) (client_1 : Int) : Option (Int × Int × Unit) :=
  Option.bind (bodegaref1_Inc k inc_0) fun r1 =>
  bif (!r1.1) then
    some ((0:Int), (2:Int), ())
  else
    Option.bind (bodegaref1_Client k client_1) fun r2 =>
    bif (!r2.1) then
      some ((0:Int), (1:Int), ())
    else
      some ((ior .u64 (ishl .u64 (IntKind.u64.wrap inc_0) (8:Int)) (IntKind.u64.wrap (IntKind.i64.wrap (client_1 + (1:Int))))), (0:Int), ())
def bodegaref1_Tag_sig : Sig := ⟨[⟨false, (.int .i64), .s, .s⟩, ⟨false, (.int .i64), .s, .s⟩], [((.int .u64), .s), ((.int .i64), .s)]⟩
noncomputable def bodegaref1_Tag_te (k : Nat) : TE := ⟨bodegaref1_Tag_sig, fun s => bodegaref1_Tag k s.1 s.2.1⟩
noncomputable def bodegaref1_Tag_C (k : Nat) : Ctx := cx [(32, bodegaref1_Client_te k), (69, bodegaref1_Inc_te k)] [] []
noncomputable def bodegaref1_Tag_code : Code := Tryz.f102.body.getD .skip
theorem bodegaref1_Tag_tab (k : Nat) : TabOk Tryz.prog (bodegaref1_Tag_C k) := ⟨tab_cons (bodegaref1_Client_ok k) (tab_cons (bodegaref1_Inc_ok k) (tab_nil)), lay_nil⟩
noncomputable def bodegaref1_Tag_ac (_k : Nat) : AC := (.sq .rg (.sq (.sq .rg (.cd (.sq .rg .nx) .nx)) (.sq (.sq .rg (.cd (.sq .rg .nx) .nx)) (.sq .rg .nx))))
theorem bodegaref1_Tag_fix (k : Nat) : acFix (bodegaref1_Tag_C k) k 19 (bodegaref1_Tag_ac k) bodegaref1_Tag_code = bodegaref1_Tag_ac k := by kernel_rfl
theorem bodegaref1_Tag_eq (k : Nat) (s : bodegaref1_Tag_sig.S) : fnEv (bodegaref1_Tag_C k) k bodegaref1_Tag_sig Tryz.f102 bodegaref1_Tag_code (bodegaref1_Tag_ac k) s = (bodegaref1_Tag_te k).F s := by kernel_rfl
theorem bodegaref1_Tag_ok (k : Nat) : CallOk Tryz.prog 102 (bodegaref1_Tag_te k) :=
  fn_ok (C := bodegaref1_Tag_C k) (code := bodegaref1_Tag_code) (g := bodegaref1_Tag_sig) (k := k) (Fn := (bodegaref1_Tag_te k).F) mixed (tysOk _ _ _) (eqsOk _ _ _) (bodegaref1_Tag_tab k) Tryz.func102 (by kernel_rfl) (by kernel_rfl) (of_decide_eq_true (by kernel_rfl)) (by kernel_rfl) (by kernel_rfl) (by kernel_rfl)
    (fun s q h => ⟨bodegaref1_Tag_ac k, ok_of_fix _ _ (bodegaref1_Tag_fix k), (bodegaref1_Tag_eq k s).trans h⟩)

/-! #### bodega/bodegaref1.Clock -/
noncomputable def bodegaref1_Clock (k : Nat) (c_0 : Int) : Option (Int × Unit) :=
  Option.bind (bodegaref1_Client k c_0) fun r1 =>
  bif (!r1.1) then
    some ((-1:Int), ())
  else
    some ((IntKind.i64.wrap ((32:Int) + c_0)), ())
def bodegaref1_Clock_sig : Sig := ⟨[⟨false, (.int .i64), .s, .s⟩], [((.int .i64), .s)]⟩
noncomputable def bodegaref1_Clock_te (k : Nat) : TE := ⟨bodegaref1_Clock_sig, fun s => bodegaref1_Clock k s.1⟩
noncomputable def bodegaref1_Clock_C (k : Nat) : Ctx := cx [(32, bodegaref1_Client_te k)] [] []
noncomputable def bodegaref1_Clock_code : Code := Tryz.f50.body.getD .skip
theorem bodegaref1_Clock_tab (k : Nat) : TabOk Tryz.prog (bodegaref1_Clock_C k) := ⟨tab_cons (bodegaref1_Client_ok k) (tab_nil), lay_nil⟩
noncomputable def bodegaref1_Clock_ac (_k : Nat) : AC := (.sq .rg (.sq (.sq .rg (.cd (.sq .rg .nx) .nx)) (.sq .rg .nx)))
theorem bodegaref1_Clock_fix (k : Nat) : acFix (bodegaref1_Clock_C k) k 8 (bodegaref1_Clock_ac k) bodegaref1_Clock_code = bodegaref1_Clock_ac k := by kernel_rfl
theorem bodegaref1_Clock_eq (k : Nat) (s : bodegaref1_Clock_sig.S) : fnEv (bodegaref1_Clock_C k) k bodegaref1_Clock_sig Tryz.f50 bodegaref1_Clock_code (bodegaref1_Clock_ac k) s = (bodegaref1_Clock_te k).F s := by kernel_rfl
theorem bodegaref1_Clock_ok (k : Nat) : CallOk Tryz.prog 50 (bodegaref1_Clock_te k) :=
  fn_ok (C := bodegaref1_Clock_C k) (code := bodegaref1_Clock_code) (g := bodegaref1_Clock_sig) (k := k) (Fn := (bodegaref1_Clock_te k).F) mixed (tysOk _ _ _) (eqsOk _ _ _) (bodegaref1_Clock_tab k) Tryz.func50 (by kernel_rfl) (by kernel_rfl) (of_decide_eq_true (by kernel_rfl)) (by kernel_rfl) (by kernel_rfl) (by kernel_rfl)
    (fun s q h => ⟨bodegaref1_Clock_ac k, ok_of_fix _ _ (bodegaref1_Clock_fix k), (bodegaref1_Clock_eq k s).trans h⟩)

/-! #### bodega/bodegaref9.Value -/
noncomputable def bodegaref9_Value_J1 (_k : Nat) (v_1 : TView) (w_5 : Int) (i_6 : Int) (m_7 : TMember) (x_8 : Int) (t_32 : Bool) : Option ((TView × Int × Int × TMember × Int × Unit)) :=
  bif t_32 then
    some (v_1, w_5, i_6, m_7, (ior .u64 x_8 (2:Int)), ())
  else
    some (v_1, w_5, i_6, m_7, x_8, ())
noncomputable def bodegaref9_Value_L1 (k : Nat) (v_1 : TView) (w_5 : Int) (i_6 : Int) : Option ((TView × Int × Int × Unit) ⊕ ((Int × Unit))) :=
  bif (decide (i_6 < (v_1.2.1.length : Int))) then
    bif (decide ((0:Int) ≤ i_6) && decide (i_6 < (v_1.2.1.length : Int))) then
      Option.bind (bodegaref9_Value_J1 k v_1 w_5 i_6 (v_1.2.1.getD (i_6.toNat) ((0:Int), (0:Int), false, ())) (ior .u64 (1:Int) (ishl .u64 (IntKind.u64.wrap (v_1.2.1.getD (i_6.toNat) ((0:Int), (0:Int), false, ())).2.1) (2:Int))) (v_1.2.1.getD (i_6.toNat) ((0:Int), (0:Int), false, ())).2.2.1) fun o2 =>
      bif (decide ((0:Int) ≤ (IntKind.u64.wrap (IntKind.i64.wrap ((7:Int) * o2.2.2.2.1.1))))) then
        some (.inl (o2.1, (ior .u64 o2.2.1 (ishl .u64 o2.2.2.2.2.1 (IntKind.u64.wrap (IntKind.i64.wrap ((7:Int) * o2.2.2.2.1.1))))), (IntKind.i64.wrap (o2.2.2.1 + (1:Int))), ()))
      else none
    else none
  else
    some (.inr (w_5, ()))
noncomputable def bodegaref9_Value_L1_it (k : Nat) (v_1 : TView) (w_5 : Int) (i_6 : Int) : Option ((Int × Unit)) :=
  iterO (fun s : TView × Int × Int × Unit => bodegaref9_Value_L1 k s.1 s.2.1 s.2.2.1) k (v_1, w_5, i_6, ())
noncomputable def bodegaref9_Value (k : Nat) (v_0 : TView) : Option (Int × Int × Unit) :=
  Option.bind (bodegaref9_ValidView k v_0 (5:Int)) fun r1 =>
  bif (!(decide (r1.1 = (0:Int)))) then
    some ((0:Int), r1.1, ())
  else
    Option.bind (bodegaref9_Value_L1_it k v_0 (549755813888:Int) (0:Int)) fun o3 =>
    some (o3.1, (0:Int), ())
def bodegaref9_Value_sig : Sig := ⟨[⟨false, y3, .s, .s⟩], [((.int .u64), .s), ((.int .i64), .s)]⟩
noncomputable def bodegaref9_Value_te (k : Nat) : TE := ⟨bodegaref9_Value_sig, fun s => bodegaref9_Value k s.1⟩
noncomputable def bodegaref9_Value_C (k : Nat) : Ctx := cx [(34, bodegaref9_ValidView_te k)] [] []
noncomputable def bodegaref9_Value_code : Code := Tryz.f120.body.getD .skip
theorem bodegaref9_Value_tab (k : Nat) : TabOk Tryz.prog (bodegaref9_Value_C k) := ⟨tab_cons (bodegaref9_ValidView_ok k) (tab_nil), lay_nil⟩
noncomputable def bodegaref9_Value_ac (k : Nat) : AC := (.sq .rg (.sq (.sq .rg (.sq .rg (.cd (.sq .rg .nx) .nx))) (.sq .rg (.sq (.sq .rg (.bk (.lp [(1, .bo y3 .s), (5, .va (.int .u64) .s), (6, .va (.int .i64) .s)] [(.exit 0, [(5, .va (.int .u64) .s)])] (fun s => bodegaref9_Value_L1 k s.1 s.2.1 s.2.2.1) (.sq (.sq .rg (.cd .nx .nx)) (.sq (.bk (.sq .rg (.sq .rg (.sq (.sq .rg (.sm [(1, .bo y3 .s), (5, .va (.int .u64) .s), (6, .va (.int .i64) .s), (7, .bo y9 .s), (8, .va (.int .u64) .s), (32, .va .bool .s)] [(.normal, [(1, .bo y3 .s), (5, .va (.int .u64) .s), (6, .va (.int .i64) .s), (7, .bo y9 .s), (8, .va (.int .u64) .s)])] (fun s => bodegaref9_Value_J1 k s.1 s.2.1 s.2.2.1 s.2.2.2.1 s.2.2.2.2.1 s.2.2.2.2.2.1) (.cd .rg .nx))) .rg)))) .rg))))) (.sq .rg .nx)))))
theorem bodegaref9_Value_fix (k : Nat) : acFix (bodegaref9_Value_C k) k 44 (bodegaref9_Value_ac k) bodegaref9_Value_code = bodegaref9_Value_ac k := by kernel_rfl
theorem bodegaref9_Value_eq (k : Nat) (s : bodegaref9_Value_sig.S) : fnEv (bodegaref9_Value_C k) k bodegaref9_Value_sig Tryz.f120 bodegaref9_Value_code (bodegaref9_Value_ac k) s = (bodegaref9_Value_te k).F s := by kernel_rfl
theorem bodegaref9_Value_ok (k : Nat) : CallOk Tryz.prog 120 (bodegaref9_Value_te k) :=
  fn_ok (C := bodegaref9_Value_C k) (code := bodegaref9_Value_code) (g := bodegaref9_Value_sig) (k := k) (Fn := (bodegaref9_Value_te k).F) mixed (tysOk _ _ _) (eqsOk _ _ _) (bodegaref9_Value_tab k) Tryz.func120 (by kernel_rfl) (by kernel_rfl) (of_decide_eq_true (by kernel_rfl)) (by kernel_rfl) (by kernel_rfl) (by kernel_rfl)
    (fun s q h => ⟨bodegaref9_Value_ac k, ok_of_fix _ _ (bodegaref9_Value_fix k), (bodegaref9_Value_eq k s).trans h⟩)

/-! #### bodega/bodegaref1.Consensus -/
noncomputable def bodegaref1_Consensus (_k : Nat) (promise_0 : Int) (accepted_1 : Int) (value_2 : Int) : Option (Int × Int × Unit) :=
  bif (bif (bif (decide ((4096:Int) ≤ promise_0)) then true else (decide ((4096:Int) ≤ accepted_1))) then true else (decide ((1099511627776:Int) ≤ value_2))) then
    some ((0:Int), (2:Int), ())
  else
    some ((ior .u64 (ior .u64 (ishl .u64 promise_0 (52:Int)) (ishl .u64 accepted_1 (40:Int))) value_2), (0:Int), ())
def bodegaref1_Consensus_sig : Sig := ⟨[⟨false, (.int .u64), .s, .s⟩, ⟨false, (.int .u64), .s, .s⟩, ⟨false, (.int .u64), .s, .s⟩], [((.int .u64), .s), ((.int .i64), .s)]⟩
noncomputable def bodegaref1_Consensus_te (k : Nat) : TE := ⟨bodegaref1_Consensus_sig, fun s => bodegaref1_Consensus k s.1 s.2.1 s.2.2.1⟩
noncomputable def bodegaref1_Consensus_C (_k : Nat) : Ctx := cx [] [] []
noncomputable def bodegaref1_Consensus_code : Code := Tryz.f121.body.getD .skip
theorem bodegaref1_Consensus_tab (k : Nat) : TabOk Tryz.prog (bodegaref1_Consensus_C k) := ⟨tab_nil, lay_nil⟩
noncomputable def bodegaref1_Consensus_ac (_k : Nat) : AC := (.sq .rg (.sq (.sq .rg (.cd (.sq .rg .nx) .nx)) (.sq .rg .nx)))
theorem bodegaref1_Consensus_fix (k : Nat) : acFix (bodegaref1_Consensus_C k) k 25 (bodegaref1_Consensus_ac k) bodegaref1_Consensus_code = bodegaref1_Consensus_ac k := by kernel_rfl
theorem bodegaref1_Consensus_eq (k : Nat) (s : bodegaref1_Consensus_sig.S) : fnEv (bodegaref1_Consensus_C k) k bodegaref1_Consensus_sig Tryz.f121 bodegaref1_Consensus_code (bodegaref1_Consensus_ac k) s = (bodegaref1_Consensus_te k).F s := by kernel_rfl
theorem bodegaref1_Consensus_ok (k : Nat) : CallOk Tryz.prog 121 (bodegaref1_Consensus_te k) :=
  fn_ok (C := bodegaref1_Consensus_C k) (code := bodegaref1_Consensus_code) (g := bodegaref1_Consensus_sig) (k := k) (Fn := (bodegaref1_Consensus_te k).F) mixed (tysOk _ _ _) (eqsOk _ _ _) (bodegaref1_Consensus_tab k) Tryz.func121 (by kernel_rfl) (by kernel_rfl) (of_decide_eq_true (by kernel_rfl)) (by kernel_rfl) (by kernel_rfl) (by kernel_rfl)
    (fun s q h => ⟨bodegaref1_Consensus_ac k, ok_of_fix _ _ (bodegaref1_Consensus_fix k), (bodegaref1_Consensus_eq k s).trans h⟩)

/-! #### bodega/bodegahand.consensus -/
noncomputable def bodegahand_consensus_l0 (k : Nat) (g_0 : TFabric) (g_1 : Int) (g_2 : TPoke) : Option (TFabric × Unit) :=
  Option.bind (bodegahand_Pick k g_2.2.2.2.1 (3:Int)) fun r1 =>
  Option.bind (bodegahand_View k r1.1 g_2.2.2.2.2.1 (IntKind.i64.wrap (Int.tdiv g_2.2.2.2.2.1 (32:Int))) ([] : (List Int)) (g_0.2.1.length : Int)) fun r2 =>
  Option.bind (bodegaref9_Value k r2.1) fun r3 =>
  Option.bind (bodegahand_Pick k g_2.2.2.1 (40:Int)) fun r4 =>
  Option.bind (bodegaref1_ConsensusAt k r2.1.1) fun r5 =>
  Option.bind (bodegahand_Pick k (IntKind.i64.wrap (Int.tdiv g_2.2.2.2.1 (3:Int))) (2:Int)) fun r6 =>
  Option.bind (bodegaref1_Consensus k (IntKind.u64.wrap r4.1) (IntKind.u64.wrap ((IntKind.u64.wrap r4.1) * (IntKind.u64.wrap r6.1))) r3.1) fun r7 =>
  bif (decide ((0:Int) ≤ r5.1) && decide (r5.1 < ((g_0.2.1.getD (g_1.toNat) (([] : (List Int)), false, ())).1.length : Int))) then
    let v8 := (g_0.1, (g_0.2.1.set (g_1.toNat) (((g_0.2.1.getD (g_1.toNat) (([] : (List Int)), false, ())).1.set (r5.1.toNat) r7.1), (g_0.2.1.getD (g_1.toNat) (([] : (List Int)), false, ())).2)), g_0.2.2)
    some (v8, ())
  else none
def bodegahand_consensus_l0_sig : Sig := ⟨[⟨true, y1, q1, q1⟩, ⟨false, (.int .i64), .s, .s⟩, ⟨false, y11, .s, .s⟩], []⟩
noncomputable def bodegahand_consensus_l0_te (k : Nat) : TE := ⟨bodegahand_consensus_l0_sig, fun s => bodegahand_consensus_l0 k s.1 s.2.1 s.2.2.1⟩
noncomputable def bodegahand_consensus_l0_tel (k : Nat) : TEL := ⟨bodegahand_consensus_l0_te k, [.root 0, .idx 1 0, .arg 2], [.pt 0 [] [], .pt 0 [.snd, .fst, .idx] [1], .src 2]⟩
noncomputable def bodegahand_consensus_l0_C (k : Nat) : Ctx := cx [(7, bodegahand_Pick_te k), (44, bodegahand_View_te k), (113, bodegaref1_ConsensusAt_te k), (120, bodegaref9_Value_te k), (121, bodegaref1_Consensus_te k)] [] []
noncomputable def bodegahand_consensus_l0_code : Code := Tryz.f104.body.getD .skip
theorem bodegahand_consensus_l0_tab (k : Nat) : TabOk Tryz.prog (bodegahand_consensus_l0_C k) := ⟨tab_cons (bodegahand_Pick_ok k) (tab_cons (bodegahand_View_ok k) (tab_cons (bodegaref1_ConsensusAt_ok k) (tab_cons (bodegaref9_Value_ok k) (tab_cons (bodegaref1_Consensus_ok k) (tab_nil))))), lay_nil⟩
noncomputable def bodegahand_consensus_l0_ac (_k : Nat) : AC := (.sq .rg (.sq .rg (.sq .rg (.sq .rg .rg))))
theorem bodegahand_consensus_l0_fix (k : Nat) : acFix (bodegahand_consensus_l0_C k) k 57 (bodegahand_consensus_l0_ac k) bodegahand_consensus_l0_code = bodegahand_consensus_l0_ac k := by kernel_rfl
theorem bodegahand_consensus_l0_eq (k : Nat) (s : bodegahand_consensus_l0_sig.S) : fnEvL (bodegahand_consensus_l0_C k) k bodegahand_consensus_l0_sig (bodegahand_consensus_l0_tel k).lay Tryz.f104 bodegahand_consensus_l0_code (bodegahand_consensus_l0_ac k) s = (bodegahand_consensus_l0_te k).F s := by kernel_rfl
theorem bodegahand_consensus_l0_ok (k : Nat) : CallOkL Tryz.prog 104 (bodegahand_consensus_l0_tel k) :=
  fn_okL (C := bodegahand_consensus_l0_C k) (code := bodegahand_consensus_l0_code) (t := bodegahand_consensus_l0_tel k) (k := k) mixed (tysOk _ _ _) (eqsOk _ _ _) (bodegahand_consensus_l0_tab k) Tryz.func104 (by kernel_rfl) (by kernel_rfl) (of_decide_eq_true (by kernel_rfl)) (by kernel_rfl) (by kernel_rfl) (by kernel_rfl)
    (fun s q h => ⟨bodegahand_consensus_l0_ac k, ok_of_fix _ _ (bodegahand_consensus_l0_fix k), (bodegahand_consensus_l0_eq k s).trans h⟩)

/-! #### bodega/bodegahand.poke -/
noncomputable def bodegahand_poke_J1 (_k : Nat) (f_0 : TFabric) (lines_2 : Int) (t_4 : TPoke) (n_6 : (Int × Unit)) (c_7 : Int) (page_8 : TPage) (t_32 : Int) (t_50 : Bool) : Option ((TFabric × Int × TPoke × (Int × Unit) × Int × TPage × Int × Bool × Unit)) :=
  bif t_50 then
    some (f_0, lines_2, t_4, (n_6.1, ()), c_7, page_8, t_32, t_50, ())
  else
    bif (decide (t_32 = (2:Int))) then
      some (f_0, lines_2, t_4, (n_6.1, ()), c_7, page_8, t_32, (decide (t_32 = (2:Int))), ())
    else
      some (f_0, lines_2, t_4, (n_6.1, ()), c_7, page_8, t_32, (decide (t_32 = (3:Int))), ())
noncomputable def bodegahand_poke_L1 (k : Nat) (f_0 : TFabric) (lines_2 : Int) (t_4 : TPoke) (c_7 : Int) (i_9 : Int) : Option ((TFabric × Int × TPoke × Int × Int × Unit) ⊕ ((TFabric × Unit))) :=
  bif (decide (i_9 < (f_0.2.1.length : Int))) then
    bif (decide ((0:Int) ≤ i_9) && decide (i_9 < (f_0.2.1.length : Int))) then
      Option.bind (bodegahand_log k (f_0.2.1.getD (i_9.toNat) (([] : (List Int)), false, ())) t_4 c_7 lines_2) fun r29 =>
      some (.inl ((f_0.1, (f_0.2.1.set (i_9.toNat) r29.1), f_0.2.2), lines_2, t_4, c_7, (IntKind.i64.wrap (i_9 + (1:Int))), ()))
    else none
  else
    some (.inr (f_0, ()))
noncomputable def bodegahand_poke_L1_it (k : Nat) (f_0 : TFabric) (lines_2 : Int) (t_4 : TPoke) (c_7 : Int) (i_9 : Int) : Option ((TFabric × Unit)) :=
  iterO (fun s : TFabric × Int × TPoke × Int × Int × Unit => bodegahand_poke_L1 k s.1 s.2.1 s.2.2.1 s.2.2.2.1 s.2.2.2.2.1) k (f_0, lines_2, t_4, c_7, i_9, ())
noncomputable def bodegahand_poke (k : Nat) (f_0 : TFabric) (t_1 : TPoke) (lines_2 : Int) : Option (TFabric × Unit) :=
  Option.bind (bodegahand_Pick k t_1.2.1 (f_0.2.1.length : Int)) fun r1 =>
  bif (decide ((0:Int) ≤ r1.1) && decide (r1.1 < (f_0.2.1.length : Int))) then
    Option.bind (bodegahand_Pick k t_1.2.2.1 (6:Int)) fun r2 =>
    Option.bind (bodegahand_Page k t_1.2.2.2.1 lines_2) fun r3 =>
    Option.bind (bodegahand_Pick k t_1.1 (14:Int)) fun r4 =>
    bif (decide (r4.1 = (0:Int))) then
      Option.bind (bodegahand_Pick k t_1.2.2.2.1 ((f_0.2.1.getD (r1.1.toNat) (([] : (List Int)), false, ())).1.length : Int)) fun r5 =>
      bif (decide ((0:Int) ≤ r5.1) && decide (r5.1 < ((f_0.2.1.getD (r1.1.toNat) (([] : (List Int)), false, ())).1.length : Int))) then
        let v6 := (f_0.1, (f_0.2.1.set (r1.1.toNat) (((f_0.2.1.getD (r1.1.toNat) (([] : (List Int)), false, ())).1.set (r5.1.toNat) t_1.2.2.2.2.2.1), (f_0.2.1.getD (r1.1.toNat) (([] : (List Int)), false, ())).2)), f_0.2.2)
        some (v6, ())
      else none
    else
      Option.bind (bodegahand_poke_J1 k f_0 lines_2 t_1 (r1.1, ()) r2.1 r3.1 r4.1 (decide (r4.1 = (1:Int)))) fun o7 =>
      bif o7.2.2.2.2.2.2.2.1 then
        Option.bind (bodegahand_log k (o7.1.2.1.getD (o7.2.2.2.1.1.toNat) (([] : (List Int)), false, ())) o7.2.2.1 o7.2.2.2.2.1 o7.2.1) fun r8 =>
        some ((o7.1.1, (o7.1.2.1.set (o7.2.2.2.1.1.toNat) r8.1), o7.1.2.2), ())
      else
        bif (decide (o7.2.2.2.2.2.2.1 = (4:Int))) then
          Option.bind (bodegaref1_PageAt k o7.2.2.2.2.2.1.1) fun r9 =>
          Option.bind (bodegahand_Pick k o7.2.2.1.2.2.2.2.1 (7:Int)) fun r10 =>
          bif (decide ((0:Int) ≤ r9.1) && decide (r9.1 < ((o7.1.2.1.getD (o7.2.2.2.1.1.toNat) (([] : (List Int)), false, ())).1.length : Int))) then
            let v11 := (o7.1.1, (o7.1.2.1.set (o7.2.2.2.1.1.toNat) (((o7.1.2.1.getD (o7.2.2.2.1.1.toNat) (([] : (List Int)), false, ())).1.set (r9.1.toNat) (ior .u64 o7.2.2.2.2.2.1.2.1 (IntKind.u64.wrap r10.1))), (o7.1.2.1.getD (o7.2.2.2.1.1.toNat) (([] : (List Int)), false, ())).2)), o7.1.2.2)
            some (v11, ())
          else none
        else
          bif (decide (o7.2.2.2.2.2.2.1 = (5:Int))) then
            Option.bind (bodegaref1_Door k o7.2.2.2.2.1) fun r12 =>
            Option.bind (bodegahand_Pick k o7.2.2.1.2.2.2.1 (6:Int)) fun r13 =>
            bif (decide ((0:Int) ≤ r12.1) && decide (r12.1 < ((o7.1.2.1.getD (o7.2.2.2.1.1.toNat) (([] : (List Int)), false, ())).1.length : Int))) then
              let v14 := (o7.1.1, (o7.1.2.1.set (o7.2.2.2.1.1.toNat) (((o7.1.2.1.getD (o7.2.2.2.1.1.toNat) (([] : (List Int)), false, ())).1.set (r12.1.toNat) (IntKind.u64.wrap r13.1)), (o7.1.2.1.getD (o7.2.2.2.1.1.toNat) (([] : (List Int)), false, ())).2)), o7.1.2.2)
              some (v14, ())
            else none
          else
            bif (decide (o7.2.2.2.2.2.2.1 = (6:Int))) then
              Option.bind (bodegaref1_TagAt k o7.2.2.2.2.1) fun r15 =>
              Option.bind (bodegahand_Pick k o7.2.2.1.2.2.2.1 (3:Int)) fun r16 =>
              Option.bind (bodegahand_Pick k o7.2.2.1.2.2.2.2.1 (6:Int)) fun r17 =>
              Option.bind (bodegaref1_Tag k (IntKind.i64.wrap ((IntKind.i64.wrap ((2:Int) * r16.1)) + (1:Int))) r17.1) fun r18 =>
              bif (decide ((0:Int) ≤ r15.1) && decide (r15.1 < ((o7.1.2.1.getD (o7.2.2.2.1.1.toNat) (([] : (List Int)), false, ())).1.length : Int))) then
                let v19 := (o7.1.1, (o7.1.2.1.set (o7.2.2.2.1.1.toNat) (((o7.1.2.1.getD (o7.2.2.2.1.1.toNat) (([] : (List Int)), false, ())).1.set (r15.1.toNat) r18.1), (o7.1.2.1.getD (o7.2.2.2.1.1.toNat) (([] : (List Int)), false, ())).2)), o7.1.2.2)
                some (v19, ())
              else none
            else
              bif (decide (o7.2.2.2.2.2.2.1 = (7:Int))) then
                Option.bind (bodegaref1_Clock k o7.2.2.2.2.1) fun r20 =>
                Option.bind (bodegahand_Pick k o7.2.2.1.2.2.2.1 (8:Int)) fun r21 =>
                bif (decide ((0:Int) ≤ r20.1) && decide (r20.1 < ((o7.1.2.1.getD (o7.2.2.2.1.1.toNat) (([] : (List Int)), false, ())).1.length : Int))) then
                  let v22 := (o7.1.1, (o7.1.2.1.set (o7.2.2.2.1.1.toNat) (((o7.1.2.1.getD (o7.2.2.2.1.1.toNat) (([] : (List Int)), false, ())).1.set (r20.1.toNat) (IntKind.u64.wrap r21.1)), (o7.1.2.1.getD (o7.2.2.2.1.1.toNat) (([] : (List Int)), false, ())).2)), o7.1.2.2)
                  some (v22, ())
                else none
              else
                bif (decide (o7.2.2.2.2.2.2.1 = (8:Int))) then
                  Option.bind (bodegahand_Pick k o7.2.2.1.2.2.2.1 (6:Int)) fun r23 =>
                  bif (decide ((0:Int) ≤ (0:Int)) && decide ((0:Int) < ((o7.1.2.1.getD (o7.2.2.2.1.1.toNat) (([] : (List Int)), false, ())).1.length : Int))) then
                    let v24 := (o7.1.1, (o7.1.2.1.set (o7.2.2.2.1.1.toNat) (((o7.1.2.1.getD (o7.2.2.2.1.1.toNat) (([] : (List Int)), false, ())).1.set 0 (IntKind.u64.wrap r23.1)), (o7.1.2.1.getD (o7.2.2.2.1.1.toNat) (([] : (List Int)), false, ())).2)), o7.1.2.2)
                    some (v24, ())
                  else none
                else
                  bif (decide (o7.2.2.2.2.2.2.1 = (9:Int))) then
                    Option.bind (bodegahand_Pick k o7.2.2.1.2.2.2.1 (3:Int)) fun r25 =>
                    bif (decide ((0:Int) ≤ (1:Int)) && decide ((1:Int) < ((o7.1.2.1.getD (o7.2.2.2.1.1.toNat) (([] : (List Int)), false, ())).1.length : Int))) then
                      let v26 := (o7.1.1, (o7.1.2.1.set (o7.2.2.2.1.1.toNat) (((o7.1.2.1.getD (o7.2.2.2.1.1.toNat) (([] : (List Int)), false, ())).1.set 1 (IntKind.u64.wrap (IntKind.i64.wrap (r25.1 + (1:Int))))), (o7.1.2.1.getD (o7.2.2.2.1.1.toNat) (([] : (List Int)), false, ())).2)), o7.1.2.2)
                      some (v26, ())
                    else none
                  else
                    bif (decide (o7.2.2.2.2.2.2.1 = (10:Int))) then
                      Option.bind (bodegahand_consensus_l0 k o7.1 o7.2.2.2.1.1 o7.2.2.1) fun r27 =>
                      some (r27.1, ())
                    else
                      bif (decide (o7.2.2.2.2.2.2.1 = (11:Int))) then
                        let v28 := (o7.1.1, (o7.1.2.1.set (o7.2.2.2.1.1.toNat) ((o7.1.2.1.getD (o7.2.2.2.1.1.toNat) (([] : (List Int)), false, ())).1, false, (o7.1.2.1.getD (o7.2.2.2.1.1.toNat) (([] : (List Int)), false, ())).2.2)), o7.1.2.2)
                        some (v28, ())
                      else
                        bif (decide (o7.2.2.2.2.2.2.1 = (12:Int))) then
                          Option.bind (bodegahand_poke_L1_it k o7.1 o7.2.1 o7.2.2.1 o7.2.2.2.2.1 (0:Int)) fun o30 =>
                          some (o30.1, ())
                        else
                          bif (decide (o7.2.2.2.2.2.2.1 = (13:Int))) then
                            Option.bind (bodegaref1_LeaseAt k o7.2.2.2.2.1) fun r31 =>
                            Option.bind (bodegahand_Pick k o7.2.2.1.2.2.2.1 (3:Int)) fun r32 =>
                            Option.bind (bodegahand_Pick k o7.2.2.1.2.2.2.2.1 (50:Int)) fun r33 =>
                            Option.bind (bodegaref1_Lease k (IntKind.i64.wrap ((IntKind.i64.wrap ((2:Int) * r32.1)) + (1:Int))) r33.1) fun r34 =>
                            bif (decide ((0:Int) ≤ r31.1) && decide (r31.1 < ((o7.1.2.1.getD (o7.2.2.2.1.1.toNat) (([] : (List Int)), false, ())).1.length : Int))) then
                              let v35 := (o7.1.1, (o7.1.2.1.set (o7.2.2.2.1.1.toNat) (((o7.1.2.1.getD (o7.2.2.2.1.1.toNat) (([] : (List Int)), false, ())).1.set (r31.1.toNat) r34.1), (o7.1.2.1.getD (o7.2.2.2.1.1.toNat) (([] : (List Int)), false, ())).2)), o7.1.2.2)
                              some (v35, ())
                            else none
                          else
                            some (o7.1, ())
  else none
def bodegahand_poke_sig : Sig := ⟨[⟨true, y1, q1, q1⟩, ⟨false, y11, .s, .s⟩, ⟨false, (.int .i64), .s, .s⟩], []⟩
noncomputable def bodegahand_poke_te (k : Nat) : TE := ⟨bodegahand_poke_sig, fun s => bodegahand_poke k s.1 s.2.1 s.2.2.1⟩
noncomputable def bodegahand_poke_C (k : Nat) : Ctx := cx [(7, bodegahand_Pick_te k), (33, bodegaref1_Lease_te k), (36, bodegaref1_LeaseAt_te k), (50, bodegaref1_Clock_te k), (98, bodegahand_Page_te k), (99, bodegahand_log_te k), (100, bodegaref1_PageAt_te k), (101, bodegaref1_Door_te k), (102, bodegaref1_Tag_te k), (103, bodegaref1_TagAt_te k)] [(104, bodegahand_consensus_l0_tel k)] []
noncomputable def bodegahand_poke_code : Code := Tryz.f82.body.getD .skip
theorem bodegahand_poke_tab (k : Nat) : TabOk Tryz.prog (bodegahand_poke_C k) := ⟨tab_cons (bodegahand_Pick_ok k) (tab_cons (bodegaref1_Lease_ok k) (tab_cons (bodegaref1_LeaseAt_ok k) (tab_cons (bodegaref1_Clock_ok k) (tab_cons (bodegahand_Page_ok k) (tab_cons (bodegahand_log_ok k) (tab_cons (bodegaref1_PageAt_ok k) (tab_cons (bodegaref1_Door_ok k) (tab_cons (bodegaref1_Tag_ok k) (tab_cons (bodegaref1_TagAt_ok k) (tab_nil)))))))))), lay_cons (bodegahand_consensus_l0_ok k) (lay_nil)⟩
noncomputable def bodegahand_poke_ac (k : Nat) : AC := (.sq .rg (.sq .rg (.sq .rg (.sq .rg (.sq .rg (.bk (.sq .rg (.cd .rg (.sq (.sq .rg (.sm [(0, .bo y1 q1), (2, .va (.int .i64) .s), (4, .bo y11 .s), (6, .ad 0 [.der, .snd, .fst, .idx]), (7, .va (.int .i64) .s), (8, .bo y6 .s), (32, .va (.int .i64) .s), (50, .va .bool .s)] [(.normal, [(0, .bo y1 q1), (2, .va (.int .i64) .s), (4, .bo y11 .s), (6, .ad 0 [.der, .snd, .fst, .idx]), (7, .va (.int .i64) .s), (8, .bo y6 .s), (32, .va (.int .i64) .s), (50, .va .bool .s)])] (fun s => bodegahand_poke_J1 k s.1 s.2.1 s.2.2.1 s.2.2.2.1 s.2.2.2.2.1 s.2.2.2.2.2.1 s.2.2.2.2.2.2.1 s.2.2.2.2.2.2.2.1) (.cd .nx (.sq .rg (.cd .nx .rg))))) (.cd .rg (.sq .rg (.cd .rg (.sq .rg (.cd .rg (.sq .rg (.cd .rg (.sq .rg (.cd .rg (.sq .rg (.cd .rg (.sq .rg (.cd .rg (.sq .rg (.cd .rg (.sq .rg (.cd .rg (.sq .rg (.cd (.sq .rg (.bk (.lp [(0, .bo y1 q1), (2, .va (.int .i64) .s), (4, .bo y11 .s), (7, .va (.int .i64) .s), (9, .va (.int .i64) .s)] [(.exit 1, [(0, .bo y1 q1)])] (fun s => bodegahand_poke_L1 k s.1 s.2.1 s.2.2.1 s.2.2.2.1 s.2.2.2.2.1) (.sq (.sq .rg (.cd .nx .nx)) (.sq (.bk .rg) .rg))))) (.sq .rg (.cd .rg .nx))))))))))))))))))))))))))))))
theorem bodegahand_poke_fix (k : Nat) : acFix (bodegahand_poke_C k) k 199 (bodegahand_poke_ac k) bodegahand_poke_code = bodegahand_poke_ac k := by kernel_rfl
theorem bodegahand_poke_eq (k : Nat) (s : bodegahand_poke_sig.S) : fnEv (bodegahand_poke_C k) k bodegahand_poke_sig Tryz.f82 bodegahand_poke_code (bodegahand_poke_ac k) s = (bodegahand_poke_te k).F s := by kernel_rfl
theorem bodegahand_poke_ok (k : Nat) : CallOk Tryz.prog 82 (bodegahand_poke_te k) :=
  fn_ok (C := bodegahand_poke_C k) (code := bodegahand_poke_code) (g := bodegahand_poke_sig) (k := k) (Fn := (bodegahand_poke_te k).F) mixed (tysOk _ _ _) (eqsOk _ _ _) (bodegahand_poke_tab k) Tryz.func82 (by kernel_rfl) (by kernel_rfl) (of_decide_eq_true (by kernel_rfl)) (by kernel_rfl) (by kernel_rfl) (by kernel_rfl)
    (fun s q h => ⟨bodegahand_poke_ac k, ok_of_fix _ _ (bodegahand_poke_fix k), (bodegahand_poke_eq k s).trans h⟩)

/-! #### bodega/bodegahand.Prepare -/
noncomputable def bodegahand_Prepare_L1 (k : Nat) (lines_2 : Int) (l_3 : (List TPoke)) (f_9 : TFabric) (i_10 : Int) : Option ((Int × (List TPoke) × TFabric × Int × Unit) ⊕ ((TFabric × Unit))) :=
  bif (decide (i_10 < (l_3.length : Int))) then
    bif (decide ((0:Int) ≤ i_10) && decide (i_10 < (l_3.length : Int))) then
      Option.bind (bodegahand_poke k f_9 (l_3.getD (i_10.toNat) ((0:Int), (0:Int), (0:Int), (0:Int), (0:Int), (0:Int), ())) lines_2) fun r3 =>
      some (.inl (lines_2, l_3, r3.1, (IntKind.i64.wrap (i_10 + (1:Int))), ()))
    else none
  else
    some (.inr (f_9, ()))
noncomputable def bodegahand_Prepare_L1_it (k : Nat) (lines_2 : Int) (l_3 : (List TPoke)) (f_9 : TFabric) (i_10 : Int) : Option ((TFabric × Unit)) :=
  iterO (fun s : Int × (List TPoke) × TFabric × Int × Unit => bodegahand_Prepare_L1 k s.1 s.2.1 s.2.2.1 s.2.2.2.1) k (lines_2, l_3, f_9, i_10, ())
noncomputable def bodegahand_Prepare (k : Nat) (nodes_0 : Int) (clients_1 : Int) (lines_2 : Int) (l_3 : (List TPoke)) : Option ((Option TFabric) × Unit) :=
  Option.bind (bodegaref6_New k nodes_0 clients_1 lines_2) fun r1 =>
  bif (r1.1.isSome) then
    Option.bind (bodegaref6_Fabric_Format k (r1.1.getD ((0:Int), ([] : (List TNode)), ([] : (List Tclient)), ([] : (List (List TPair))), ([] : (List TPair)), ()))) fun r2 =>
    Option.bind (bodegahand_Prepare_L1_it k lines_2 l_3 r2.1 (0:Int)) fun o4 =>
    some ((some o4.1), ())
  else none
def bodegahand_Prepare_sig : Sig := ⟨[⟨false, (.int .i64), .s, .s⟩, ⟨false, (.int .i64), .s, .s⟩, ⟨false, (.int .i64), .s, .s⟩, ⟨false, (.list y11), .s, .s⟩], [((.ptr y1), (.o q1))]⟩
noncomputable def bodegahand_Prepare_te (k : Nat) : TE := ⟨bodegahand_Prepare_sig, fun s => bodegahand_Prepare k s.1 s.2.1 s.2.2.1 s.2.2.2.1⟩
noncomputable def bodegahand_Prepare_C (k : Nat) : Ctx := cx [(80, bodegaref6_New_te k), (81, bodegaref6_Fabric_Format_te k), (82, bodegahand_poke_te k)] [] []
noncomputable def bodegahand_Prepare_code : Code := Tryz.f43.body.getD .skip
theorem bodegahand_Prepare_tab (k : Nat) : TabOk Tryz.prog (bodegahand_Prepare_C k) := ⟨tab_cons (bodegaref6_New_ok k) (tab_cons (bodegaref6_Fabric_Format_ok k) (tab_cons (bodegahand_poke_ok k) (tab_nil))), lay_nil⟩
noncomputable def bodegahand_Prepare_ac (k : Nat) : AC := (.sq .rg (.sq .rg (.sq .rg (.sq (.sq .rg (.bk (.lp [(2, .va (.int .i64) .s), (3, .va (.list y11) .s), (9, .bo y1 q1), (10, .va (.int .i64) .s)] [(.exit 0, [(9, .bo y1 q1)])] (fun s => bodegahand_Prepare_L1 k s.1 s.2.1 s.2.2.1 s.2.2.2.1) (.sq (.sq .rg (.cd .nx .nx)) (.sq (.bk .rg) .rg))))) (.sq .rg .nx)))))
theorem bodegahand_Prepare_fix (k : Nat) : acFix (bodegahand_Prepare_C k) k 31 (bodegahand_Prepare_ac k) bodegahand_Prepare_code = bodegahand_Prepare_ac k := by kernel_rfl
theorem bodegahand_Prepare_eq (k : Nat) (s : bodegahand_Prepare_sig.S) : fnEv (bodegahand_Prepare_C k) k bodegahand_Prepare_sig Tryz.f43 bodegahand_Prepare_code (bodegahand_Prepare_ac k) s = (bodegahand_Prepare_te k).F s := by kernel_rfl
theorem bodegahand_Prepare_ok (k : Nat) : CallOk Tryz.prog 43 (bodegahand_Prepare_te k) :=
  fn_ok (C := bodegahand_Prepare_C k) (code := bodegahand_Prepare_code) (g := bodegahand_Prepare_sig) (k := k) (Fn := (bodegahand_Prepare_te k).F) mixed (tysOk _ _ _) (eqsOk _ _ _) (bodegahand_Prepare_tab k) Tryz.func43 (by kernel_rfl) (by kernel_rfl) (of_decide_eq_true (by kernel_rfl)) (by kernel_rfl) (by kernel_rfl) (by kernel_rfl)
    (fun s q h => ⟨bodegahand_Prepare_ac k, ok_of_fix _ _ (bodegahand_Prepare_fix k), (bodegahand_Prepare_eq k s).trans h⟩)

end Go.Proofs.YtkgjdglkkoabmaaGreat.N

set_option maxRecDepth 1000000
namespace Go.Proofs.YtkgjdglkkoabmaaGreat.N
open Go.VL Go.Proofs

/-! #### (*bodega/bodegaref6.Fabric).alive -/
noncomputable def bodegaref6_Fabric_alive (_k : Nat) (f_0 : TFabric) (c_1 : Int) : Option (Bool × TFabric × Unit) :=
  bif ((decide ((0:Int) ≤ c_1) && decide (c_1 < (f_0.2.2.1.length : Int))) || (!(bif (decide ((0:Int) ≤ c_1)) then (decide (c_1 < (f_0.2.2.1.length : Int))) else false))) then
    some ((bif (bif (decide ((0:Int) ≤ c_1)) then (decide (c_1 < (f_0.2.2.1.length : Int))) else false) then (f_0.2.2.1.getD (c_1.toNat) (false, (0:Int), false, ([] : (List TClocksOutcome)), ([] : (List Bool)), (0:Int), (0:Int), ())).1 else false), f_0, ())
  else none
def bodegaref6_Fabric_alive_sig : Sig := ⟨[⟨true, y1, q1, q1⟩, ⟨false, (.int .i64), .s, .s⟩], [(.bool, .s)]⟩
noncomputable def bodegaref6_Fabric_alive_te (k : Nat) : TE := ⟨bodegaref6_Fabric_alive_sig, fun s => bodegaref6_Fabric_alive k s.1 s.2.1⟩
noncomputable def bodegaref6_Fabric_alive_C (_k : Nat) : Ctx := cx [] [] []
noncomputable def bodegaref6_Fabric_alive_code : Code := Tryz.f90.body.getD .skip
theorem bodegaref6_Fabric_alive_tab (k : Nat) : TabOk Tryz.prog (bodegaref6_Fabric_alive_C k) := ⟨tab_nil, lay_nil⟩
noncomputable def bodegaref6_Fabric_alive_ac (_k : Nat) : AC := (.sq .rg (.sq .rg .nx))
theorem bodegaref6_Fabric_alive_fix (k : Nat) : acFix (bodegaref6_Fabric_alive_C k) k 26 (bodegaref6_Fabric_alive_ac k) bodegaref6_Fabric_alive_code = bodegaref6_Fabric_alive_ac k := by kernel_rfl
theorem bodegaref6_Fabric_alive_eq (k : Nat) (s : bodegaref6_Fabric_alive_sig.S) : fnEv (bodegaref6_Fabric_alive_C k) k bodegaref6_Fabric_alive_sig Tryz.f90 bodegaref6_Fabric_alive_code (bodegaref6_Fabric_alive_ac k) s = (bodegaref6_Fabric_alive_te k).F s := by kernel_rfl
theorem bodegaref6_Fabric_alive_ok (k : Nat) : CallOk Tryz.prog 90 (bodegaref6_Fabric_alive_te k) :=
  fn_ok (C := bodegaref6_Fabric_alive_C k) (code := bodegaref6_Fabric_alive_code) (g := bodegaref6_Fabric_alive_sig) (k := k) (Fn := (bodegaref6_Fabric_alive_te k).F) mixed (tysOk _ _ _) (eqsOk _ _ _) (bodegaref6_Fabric_alive_tab k) Tryz.func90 (by kernel_rfl) (by kernel_rfl) (of_decide_eq_true (by kernel_rfl)) (by kernel_rfl) (by kernel_rfl) (by kernel_rfl)
    (fun s q h => ⟨bodegaref6_Fabric_alive_ac k, ok_of_fix _ _ (bodegaref6_Fabric_alive_fix k), (bodegaref6_Fabric_alive_eq k s).trans h⟩)

/-! #### bodega/bodegaref4.Count -/
noncomputable def bodegaref4_Count (_k : Nat) (v_0 : TVerb) : Option (Int × Unit) :=
  bif (decide (v_0.1 = (1:Int))) then
    some (v_0.2.2.2.1, ())
  else
    bif (decide (v_0.1 = (2:Int))) then
      some ((v_0.2.2.2.2.2.2.1.length : Int), ())
    else
      some ((1:Int), ())
def bodegaref4_Count_sig : Sig := ⟨[⟨false, y2, .s, .s⟩], [((.int .i64), .s)]⟩
noncomputable def bodegaref4_Count_te (k : Nat) : TE := ⟨bodegaref4_Count_sig, fun s => bodegaref4_Count k s.1⟩
noncomputable def bodegaref4_Count_C (_k : Nat) : Ctx := cx [] [] []
noncomputable def bodegaref4_Count_code : Code := Tryz.f107.body.getD .skip
theorem bodegaref4_Count_tab (k : Nat) : TabOk Tryz.prog (bodegaref4_Count_C k) := ⟨tab_nil, lay_nil⟩
noncomputable def bodegaref4_Count_ac (_k : Nat) : AC := (.sq .rg (.sq (.sq .rg (.bk (.sq .rg (.cd (.sq .rg .nx) (.sq .rg (.cd (.sq .rg .nx) .nx)))))) (.sq .rg .nx)))
theorem bodegaref4_Count_fix (k : Nat) : acFix (bodegaref4_Count_C k) k 14 (bodegaref4_Count_ac k) bodegaref4_Count_code = bodegaref4_Count_ac k := by kernel_rfl
theorem bodegaref4_Count_eq (k : Nat) (s : bodegaref4_Count_sig.S) : fnEv (bodegaref4_Count_C k) k bodegaref4_Count_sig Tryz.f107 bodegaref4_Count_code (bodegaref4_Count_ac k) s = (bodegaref4_Count_te k).F s := by kernel_rfl
theorem bodegaref4_Count_ok (k : Nat) : CallOk Tryz.prog 107 (bodegaref4_Count_te k) :=
  fn_ok (C := bodegaref4_Count_C k) (code := bodegaref4_Count_code) (g := bodegaref4_Count_sig) (k := k) (Fn := (bodegaref4_Count_te k).F) mixed (tysOk _ _ _) (eqsOk _ _ _) (bodegaref4_Count_tab k) Tryz.func107 (by kernel_rfl) (by kernel_rfl) (of_decide_eq_true (by kernel_rfl)) (by kernel_rfl) (by kernel_rfl) (by kernel_rfl)
    (fun s q h => ⟨bodegaref4_Count_ac k, ok_of_fix _ _ (bodegaref4_Count_fix k), (bodegaref4_Count_eq k s).trans h⟩)

/-! #### bodega/bodegaref4.Valid -/
noncomputable def bodegaref4_Valid (k : Nat) (v_0 : TVerb) (nodes_1 : Int) (lines_2 : Int) : Option (Int × Unit) :=
  bif (bif (bif (bif (decide (v_0.1 < (1:Int))) then true else (decide ((4:Int) < v_0.1))) then true else (bif (decide (v_0.1 = (1:Int))) then (decide (v_0.2.2.2.1 < (1:Int))) else false)) then true else (bif (decide (v_0.1 = (2:Int))) then (decide ((v_0.2.2.2.2.2.2.1.length : Int) < (1:Int))) else false)) then
    some ((1:Int), ())
  else
    Option.bind (bodegaref4_Count k v_0) fun r1 =>
    bif (bif (bif (bif (bif (bif (bif (bif (bif (decide (nodes_1 < (1:Int))) then true else (decide ((5:Int) < nodes_1))) then true else (decide (lines_2 < (1:Int)))) then true else (decide ((256:Int) < lines_2))) then true else (decide (v_0.2.1 < (0:Int)))) then true else (decide (nodes_1 ≤ v_0.2.1))) then true else (decide (v_0.2.2.1 < (0:Int)))) then true else (decide ((IntKind.i64.wrap (lines_2 * (8:Int))) ≤ v_0.2.2.1))) then true else (decide ((1024:Int) < r1.1))) then
      some ((2:Int), ())
    else
      bif (bif (decide (lines_2 ≤ (IntKind.i64.wrap (Int.tdiv (IntKind.i64.wrap ((IntKind.i64.wrap (v_0.2.2.1 + r1.1)) - (1:Int))) (8:Int))))) then true else (decide ((128:Int) < (IntKind.i64.wrap ((IntKind.i64.wrap ((IntKind.i64.wrap (Int.tdiv (IntKind.i64.wrap ((IntKind.i64.wrap (v_0.2.2.1 + r1.1)) - (1:Int))) (8:Int))) - (IntKind.i64.wrap (Int.tdiv v_0.2.2.1 (8:Int))))) + (1:Int)))))) then
        some ((2:Int), ())
      else
        bif (bif (bif (bif (!(decide (v_0.1 = (1:Int)))) then (decide ((IntKind.i64.wrap (Int.tdiv v_0.2.2.1 (8:Int))) < (3:Int))) else false) then (decide ((3:Int) ≤ (IntKind.i64.wrap (Int.tdiv (IntKind.i64.wrap ((IntKind.i64.wrap (v_0.2.2.1 + r1.1)) - (1:Int))) (8:Int))))) else false) then true else (bif (bif (decide (v_0.1 = (1:Int))) then (decide ((IntKind.i64.wrap (Int.tdiv v_0.2.2.1 (8:Int))) ≤ (3:Int))) else false) then (decide ((3:Int) < (IntKind.i64.wrap (Int.tdiv (IntKind.i64.wrap ((IntKind.i64.wrap (v_0.2.2.1 + r1.1)) - (1:Int))) (8:Int))))) else false)) then
          some ((2:Int), ())
        else
          some ((0:Int), ())
def bodegaref4_Valid_sig : Sig := ⟨[⟨false, y2, .s, .s⟩, ⟨false, (.int .i64), .s, .s⟩, ⟨false, (.int .i64), .s, .s⟩], [((.int .i64), .s)]⟩
noncomputable def bodegaref4_Valid_te (k : Nat) : TE := ⟨bodegaref4_Valid_sig, fun s => bodegaref4_Valid k s.1 s.2.1 s.2.2.1⟩
noncomputable def bodegaref4_Valid_C (k : Nat) : Ctx := cx [(107, bodegaref4_Count_te k)] [] []
noncomputable def bodegaref4_Valid_code : Code := Tryz.f91.body.getD .skip
theorem bodegaref4_Valid_tab (k : Nat) : TabOk Tryz.prog (bodegaref4_Valid_C k) := ⟨tab_cons (bodegaref4_Count_ok k) (tab_nil), lay_nil⟩
noncomputable def bodegaref4_Valid_ac (_k : Nat) : AC := (.sq .rg (.sq (.sq .rg (.cd (.sq .rg .nx) .nx)) (.sq .rg (.sq (.sq .rg (.cd (.sq .rg .nx) .nx)) (.sq .rg (.sq (.sq .rg (.cd (.sq .rg .nx) .nx)) (.sq (.sq .rg (.cd (.sq .rg .nx) .nx)) (.sq .rg .nx))))))))
theorem bodegaref4_Valid_fix (k : Nat) : acFix (bodegaref4_Valid_C k) k 125 (bodegaref4_Valid_ac k) bodegaref4_Valid_code = bodegaref4_Valid_ac k := by kernel_rfl
theorem bodegaref4_Valid_eq (k : Nat) (s : bodegaref4_Valid_sig.S) : fnEv (bodegaref4_Valid_C k) k bodegaref4_Valid_sig Tryz.f91 bodegaref4_Valid_code (bodegaref4_Valid_ac k) s = (bodegaref4_Valid_te k).F s := by kernel_rfl
theorem bodegaref4_Valid_ok (k : Nat) : CallOk Tryz.prog 91 (bodegaref4_Valid_te k) :=
  fn_ok (C := bodegaref4_Valid_C k) (code := bodegaref4_Valid_code) (g := bodegaref4_Valid_sig) (k := k) (Fn := (bodegaref4_Valid_te k).F) mixed (tysOk _ _ _) (eqsOk _ _ _) (bodegaref4_Valid_tab k) Tryz.func91 (by kernel_rfl) (by kernel_rfl) (of_decide_eq_true (by kernel_rfl)) (by kernel_rfl) (by kernel_rfl) (by kernel_rfl)
    (fun s q h => ⟨bodegaref4_Valid_ac k, ok_of_fix _ _ (bodegaref4_Valid_fix k), (bodegaref4_Valid_eq k s).trans h⟩)

/-! #### (*bodega/bodegaref6.Pair).Post -/
noncomputable def bodegaref6_Pair_Post (k : Nat) (t_0 : TPair) (v_1 : TVerb) (lines_2 : Int) (slot_3 : Int) : Option (Int × TPair × Unit) :=
  Option.bind (bodegaref4_Valid k v_1 (5:Int) lines_2) fun r1 =>
  bif (!(decide (r1.1 = (0:Int)))) then
    some (r1.1, t_0, ())
  else
    bif (!(decide (v_1.2.1 = t_0.2.2.1))) then
      some ((1:Int), t_0, ())
    else
      bif (decide ((1024:Int) ≤ (t_0.2.2.2.1.length : Int))) then
        some ((12:Int), t_0, ())
      else
        bif (decide (([] : (List Int)).length + v_1.2.2.2.2.2.2.1.length < 1073741824)) then
          let v2 := (v_1.1, v_1.2.1, v_1.2.2.1, v_1.2.2.2.1, v_1.2.2.2.2.1, v_1.2.2.2.2.2.1, (([] : (List Int)) ++ v_1.2.2.2.2.2.2.1), v_1.2.2.2.2.2.2.2)
          bif (decide (([] : (List Tpending)).length + t_0.2.2.2.1.length < 1073741824)) then
            bif (decide ((([] : (List Tpending)) ++ t_0.2.2.2.1).length + [(v2, (0:Int), ([] : (List Int)), slot_3, ())].length < 1073741824)) then
              let v3 := (t_0.1, t_0.2.1, t_0.2.2.1, ((([] : (List Tpending)) ++ t_0.2.2.2.1) ++ [(v2, (0:Int), ([] : (List Int)), slot_3, ())]), t_0.2.2.2.2)
              some ((0:Int), v3, ())
            else none
          else none
        else none
def bodegaref6_Pair_Post_sig : Sig := ⟨[⟨true, y8, .s, .s⟩, ⟨false, y2, .s, .s⟩, ⟨false, (.int .i64), .s, .s⟩, ⟨false, (.int .i64), .s, .s⟩], [((.int .i64), .s)]⟩
noncomputable def bodegaref6_Pair_Post_te (k : Nat) : TE := ⟨bodegaref6_Pair_Post_sig, fun s => bodegaref6_Pair_Post k s.1 s.2.1 s.2.2.1 s.2.2.2.1⟩
noncomputable def bodegaref6_Pair_Post_C (k : Nat) : Ctx := cx [(91, bodegaref4_Valid_te k)] [] []
noncomputable def bodegaref6_Pair_Post_code : Code := Tryz.f92.body.getD .skip
theorem bodegaref6_Pair_Post_tab (k : Nat) : TabOk Tryz.prog (bodegaref6_Pair_Post_C k) := ⟨tab_cons (bodegaref4_Valid_ok k) (tab_nil), lay_nil⟩
noncomputable def bodegaref6_Pair_Post_ac (_k : Nat) : AC := (.sq .rg (.sq (.sq .rg (.sq .rg (.cd (.sq .rg .nx) .nx))) (.sq (.sq .rg (.cd (.sq .rg .nx) .nx)) (.sq (.sq .rg (.cd (.sq .rg .nx) .nx)) (.sq .rg (.sq .rg (.sq .rg .nx)))))))
theorem bodegaref6_Pair_Post_fix (k : Nat) : acFix (bodegaref6_Pair_Post_C k) k 46 (bodegaref6_Pair_Post_ac k) bodegaref6_Pair_Post_code = bodegaref6_Pair_Post_ac k := by kernel_rfl
theorem bodegaref6_Pair_Post_eq (k : Nat) (s : bodegaref6_Pair_Post_sig.S) : fnEv (bodegaref6_Pair_Post_C k) k bodegaref6_Pair_Post_sig Tryz.f92 bodegaref6_Pair_Post_code (bodegaref6_Pair_Post_ac k) s = (bodegaref6_Pair_Post_te k).F s := by kernel_rfl
theorem bodegaref6_Pair_Post_ok (k : Nat) : CallOk Tryz.prog 92 (bodegaref6_Pair_Post_te k) :=
  fn_ok (C := bodegaref6_Pair_Post_C k) (code := bodegaref6_Pair_Post_code) (g := bodegaref6_Pair_Post_sig) (k := k) (Fn := (bodegaref6_Pair_Post_te k).F) mixed (tysOk _ _ _) (eqsOk _ _ _) (bodegaref6_Pair_Post_tab k) Tryz.func92 (by kernel_rfl) (by kernel_rfl) (of_decide_eq_true (by kernel_rfl)) (by kernel_rfl) (by kernel_rfl) (by kernel_rfl)
    (fun s q h => ⟨bodegaref6_Pair_Post_ac k, ok_of_fix _ _ (bodegaref6_Pair_Post_fix k), (bodegaref6_Pair_Post_eq k s).trans h⟩)

/-! #### (*bodega/bodegaref6.Fabric).Post -/
noncomputable def bodegaref6_Fabric_Post_L1 (k : Nat) (f_0 : TFabric) (c_1 : Int) (l_2 : (List TVerb)) (i_7 : Int) : Option ((TFabric × Int × (List TVerb) × Int × Unit) ⊕ ((TFabric × Int × Unit) ⊕ (TFabric × Int × (List TVerb) × Unit))) :=
  bif (decide (i_7 < (l_2.length : Int))) then
    bif (decide ((0:Int) ≤ i_7) && decide (i_7 < (l_2.length : Int))) then
      Option.bind (bodegaref4_Valid k (l_2.getD (i_7.toNat) ((0:Int), (0:Int), (0:Int), (0:Int), (0:Int), (0:Int), ([] : (List Int)), (0:Int), (0:Int), ())) (f_0.2.1.length : Int) f_0.1) fun r2 =>
      bif (!(decide (r2.1 = (0:Int)))) then
        some (.inr (.inl (f_0, r2.1, ())))
      else
        some (.inl (f_0, c_1, l_2, (IntKind.i64.wrap (i_7 + (1:Int))), ()))
    else none
  else
    some (.inr (.inr (f_0, c_1, l_2, ())))
noncomputable def bodegaref6_Fabric_Post_L1_it (k : Nat) (f_0 : TFabric) (c_1 : Int) (l_2 : (List TVerb)) (i_7 : Int) : Option ((TFabric × Int × Unit) ⊕ (TFabric × Int × (List TVerb) × Unit)) :=
  iterO (fun s : TFabric × Int × (List TVerb) × Int × Unit => bodegaref6_Fabric_Post_L1 k s.1 s.2.1 s.2.2.1 s.2.2.2.1) k (f_0, c_1, l_2, i_7, ())
noncomputable def bodegaref6_Fabric_Post_L2 (k : Nat) (f_0 : TFabric) (c_1 : Int) (l_2 : (List TVerb)) (i_9 : Int) : Option ((TFabric × Int × (List TVerb) × Int × Unit) ⊕ ((TFabric × Int × (List TVerb) × Unit))) :=
  bif (decide (i_9 < (l_2.length : Int))) then
    bif (decide ((0:Int) ≤ c_1) && decide (c_1 < (f_0.2.2.2.1.length : Int))) then
      bif (decide ((0:Int) ≤ i_9) && decide (i_9 < (l_2.length : Int))) then
        bif (decide ((0:Int) ≤ (l_2.getD (i_9.toNat) ((0:Int), (0:Int), (0:Int), (0:Int), (0:Int), (0:Int), ([] : (List Int)), (0:Int), (0:Int), ())).2.1) && decide ((l_2.getD (i_9.toNat) ((0:Int), (0:Int), (0:Int), (0:Int), (0:Int), (0:Int), ([] : (List Int)), (0:Int), (0:Int), ())).2.1 < ((f_0.2.2.2.1.getD (c_1.toNat) ([] : (List TPair))).length : Int))) then
          bif (decide ((0:Int) ≤ i_9) && decide (i_9 < (l_2.length : Int))) then
            Option.bind (bodegaref6_Pair_Post k ((f_0.2.2.2.1.getD (c_1.toNat) ([] : (List TPair))).getD ((l_2.getD (i_9.toNat) ((0:Int), (0:Int), (0:Int), (0:Int), (0:Int), (0:Int), ([] : (List Int)), (0:Int), (0:Int), ())).2.1.toNat) ((0:Int), (0:Int), (0:Int), ([] : (List Tpending)), ())) (l_2.getD (i_9.toNat) ((0:Int), (0:Int), (0:Int), (0:Int), (0:Int), (0:Int), ([] : (List Int)), (0:Int), (0:Int), ())) f_0.1 i_9) fun r6 =>
            let v7 := (f_0.1, f_0.2.1, f_0.2.2.1, (f_0.2.2.2.1.set (c_1.toNat) ((f_0.2.2.2.1.getD (c_1.toNat) ([] : (List TPair))).set ((l_2.getD (i_9.toNat) ((0:Int), (0:Int), (0:Int), (0:Int), (0:Int), (0:Int), ([] : (List Int)), (0:Int), (0:Int), ())).2.1.toNat) r6.2.1)), f_0.2.2.2.2)
            some (.inl (v7, c_1, l_2, (IntKind.i64.wrap (i_9 + (1:Int))), ()))
          else none
        else none
      else none
    else none
  else
    some (.inr (f_0, c_1, l_2, ()))
noncomputable def bodegaref6_Fabric_Post_L2_it (k : Nat) (f_0 : TFabric) (c_1 : Int) (l_2 : (List TVerb)) (i_9 : Int) : Option ((TFabric × Int × (List TVerb) × Unit)) :=
  iterO (fun s : TFabric × Int × (List TVerb) × Int × Unit => bodegaref6_Fabric_Post_L2 k s.1 s.2.1 s.2.2.1 s.2.2.2.1) k (f_0, c_1, l_2, i_9, ())
noncomputable def bodegaref6_Fabric_Post (k : Nat) (f_0 : TFabric) (c_1 : Int) (l_2 : (List TVerb)) : Option (Int × TFabric × Unit) :=
  Option.bind (bodegaref6_Fabric_alive k f_0 c_1) fun r1 =>
  bif (!r1.1) then
    some ((1:Int), r1.2.1, ())
  else
    bif (decide ((0:Int) ≤ c_1) && decide (c_1 < (r1.2.1.2.2.1.length : Int))) then
      bif (r1.2.1.2.2.1.getD (c_1.toNat) (false, (0:Int), false, ([] : (List TClocksOutcome)), ([] : (List Bool)), (0:Int), (0:Int), ())).2.2.1 then
        some ((3:Int), r1.2.1, ())
      else
        bif (decide ((l_2.length : Int) = (0:Int))) then
          some ((1:Int), r1.2.1, ())
        else
          bif (decide ((1024:Int) < (l_2.length : Int))) then
            some ((18:Int), r1.2.1, ())
          else
            Option.bind (bodegaref6_Fabric_Post_L1_it k r1.2.1 c_1 l_2 (0:Int)) fun o3 =>
            Sum.elim (fun o4 =>
              some (o4.2.1, o4.1, ())) (fun o5 =>
              Option.bind (bodegaref6_Fabric_Post_L2_it k o5.1 o5.2.1 o5.2.2.1 (0:Int)) fun o8 =>
              bif (decide ((0:Int) ≤ o8.2.1) && decide (o8.2.1 < (o8.1.2.2.1.length : Int))) then
                bif (decide ((o8.2.2.1.length : Int) = (o8.2.2.1.length : Int)) && decide ((0:Int) ≤ (o8.2.2.1.length : Int)) && decide ((o8.2.2.1.length : Int) ≤ 1073741824)) then
                  bif (decide ((o8.2.2.1.length : Int) = (o8.2.2.1.length : Int)) && decide ((0:Int) ≤ (o8.2.2.1.length : Int)) && decide ((o8.2.2.1.length : Int) ≤ 1073741824)) then
                    let v9 := (o8.1.1, o8.1.2.1, (o8.1.2.2.1.set (o8.2.1.toNat) ((o8.1.2.2.1.getD (o8.2.1.toNat) (false, (0:Int), false, ([] : (List TClocksOutcome)), ([] : (List Bool)), (0:Int), (0:Int), ())).1, (o8.1.2.2.1.getD (o8.2.1.toNat) (false, (0:Int), false, ([] : (List TClocksOutcome)), ([] : (List Bool)), (0:Int), (0:Int), ())).2.1, true, (o8.1.2.2.1.getD (o8.2.1.toNat) (false, (0:Int), false, ([] : (List TClocksOutcome)), ([] : (List Bool)), (0:Int), (0:Int), ())).2.2.2)), o8.1.2.2.2)
                    let v10 := (v9.1, v9.2.1, (v9.2.2.1.set (o8.2.1.toNat) ((v9.2.2.1.getD (o8.2.1.toNat) (false, (0:Int), false, ([] : (List TClocksOutcome)), ([] : (List Bool)), (0:Int), (0:Int), ())).1, (v9.2.2.1.getD (o8.2.1.toNat) (false, (0:Int), false, ([] : (List TClocksOutcome)), ([] : (List Bool)), (0:Int), (0:Int), ())).2.1, (v9.2.2.1.getD (o8.2.1.toNat) (false, (0:Int), false, ([] : (List TClocksOutcome)), ([] : (List Bool)), (0:Int), (0:Int), ())).2.2.1, (List.replicate ((o8.2.2.1.length : Int).toNat) ((0:Int), ([] : (List Int)), ())), (v9.2.2.1.getD (o8.2.1.toNat) (false, (0:Int), false, ([] : (List TClocksOutcome)), ([] : (List Bool)), (0:Int), (0:Int), ())).2.2.2.2)), v9.2.2.2)
                    let v11 := (v10.1, v10.2.1, (v10.2.2.1.set (o8.2.1.toNat) ((v10.2.2.1.getD (o8.2.1.toNat) (false, (0:Int), false, ([] : (List TClocksOutcome)), ([] : (List Bool)), (0:Int), (0:Int), ())).1, (v10.2.2.1.getD (o8.2.1.toNat) (false, (0:Int), false, ([] : (List TClocksOutcome)), ([] : (List Bool)), (0:Int), (0:Int), ())).2.1, (v10.2.2.1.getD (o8.2.1.toNat) (false, (0:Int), false, ([] : (List TClocksOutcome)), ([] : (List Bool)), (0:Int), (0:Int), ())).2.2.1, (v10.2.2.1.getD (o8.2.1.toNat) (false, (0:Int), false, ([] : (List TClocksOutcome)), ([] : (List Bool)), (0:Int), (0:Int), ())).2.2.2.1, (List.replicate ((o8.2.2.1.length : Int).toNat) false), (v10.2.2.1.getD (o8.2.1.toNat) (false, (0:Int), false, ([] : (List TClocksOutcome)), ([] : (List Bool)), (0:Int), (0:Int), ())).2.2.2.2.2)), v10.2.2.2)
                    let v12 := (v11.1, v11.2.1, (v11.2.2.1.set (o8.2.1.toNat) ((v11.2.2.1.getD (o8.2.1.toNat) (false, (0:Int), false, ([] : (List TClocksOutcome)), ([] : (List Bool)), (0:Int), (0:Int), ())).1, (v11.2.2.1.getD (o8.2.1.toNat) (false, (0:Int), false, ([] : (List TClocksOutcome)), ([] : (List Bool)), (0:Int), (0:Int), ())).2.1, (v11.2.2.1.getD (o8.2.1.toNat) (false, (0:Int), false, ([] : (List TClocksOutcome)), ([] : (List Bool)), (0:Int), (0:Int), ())).2.2.1, (v11.2.2.1.getD (o8.2.1.toNat) (false, (0:Int), false, ([] : (List TClocksOutcome)), ([] : (List Bool)), (0:Int), (0:Int), ())).2.2.2.1, (v11.2.2.1.getD (o8.2.1.toNat) (false, (0:Int), false, ([] : (List TClocksOutcome)), ([] : (List Bool)), (0:Int), (0:Int), ())).2.2.2.2.1, (IntKind.i64.wrap ((v11.2.2.1.getD (o8.2.1.toNat) (false, (0:Int), false, ([] : (List TClocksOutcome)), ([] : (List Bool)), (0:Int), (0:Int), ())).2.2.2.2.2.1 + (1:Int))), (v11.2.2.1.getD (o8.2.1.toNat) (false, (0:Int), false, ([] : (List TClocksOutcome)), ([] : (List Bool)), (0:Int), (0:Int), ())).2.2.2.2.2.2)), v11.2.2.2)
                    let v13 := (v12.1, v12.2.1, (v12.2.2.1.set (o8.2.1.toNat) ((v12.2.2.1.getD (o8.2.1.toNat) (false, (0:Int), false, ([] : (List TClocksOutcome)), ([] : (List Bool)), (0:Int), (0:Int), ())).1, (v12.2.2.1.getD (o8.2.1.toNat) (false, (0:Int), false, ([] : (List TClocksOutcome)), ([] : (List Bool)), (0:Int), (0:Int), ())).2.1, (v12.2.2.1.getD (o8.2.1.toNat) (false, (0:Int), false, ([] : (List TClocksOutcome)), ([] : (List Bool)), (0:Int), (0:Int), ())).2.2.1, (v12.2.2.1.getD (o8.2.1.toNat) (false, (0:Int), false, ([] : (List TClocksOutcome)), ([] : (List Bool)), (0:Int), (0:Int), ())).2.2.2.1, (v12.2.2.1.getD (o8.2.1.toNat) (false, (0:Int), false, ([] : (List TClocksOutcome)), ([] : (List Bool)), (0:Int), (0:Int), ())).2.2.2.2.1, (v12.2.2.1.getD (o8.2.1.toNat) (false, (0:Int), false, ([] : (List TClocksOutcome)), ([] : (List Bool)), (0:Int), (0:Int), ())).2.2.2.2.2.1, (IntKind.i64.wrap ((v11.2.2.1.getD (o8.2.1.toNat) (false, (0:Int), false, ([] : (List TClocksOutcome)), ([] : (List Bool)), (0:Int), (0:Int), ())).2.2.2.2.2.2.1 + (o8.2.2.1.length : Int))), (v12.2.2.1.getD (o8.2.1.toNat) (false, (0:Int), false, ([] : (List TClocksOutcome)), ([] : (List Bool)), (0:Int), (0:Int), ())).2.2.2.2.2.2.2)), v12.2.2.2)
                    some ((0:Int), v13, ())
                  else none
                else none
              else none) o3
    else none
def bodegaref6_Fabric_Post_sig : Sig := ⟨[⟨true, y1, q1, q1⟩, ⟨false, (.int .i64), .s, .s⟩, ⟨false, (.list y2), .s, .s⟩], [((.int .i64), .s)]⟩
noncomputable def bodegaref6_Fabric_Post_te (k : Nat) : TE := ⟨bodegaref6_Fabric_Post_sig, fun s => bodegaref6_Fabric_Post k s.1 s.2.1 s.2.2.1⟩
noncomputable def bodegaref6_Fabric_Post_C (k : Nat) : Ctx := cx [(90, bodegaref6_Fabric_alive_te k), (91, bodegaref4_Valid_te k), (92, bodegaref6_Pair_Post_te k)] [] []
noncomputable def bodegaref6_Fabric_Post_code : Code := Tryz.f75.body.getD .skip
theorem bodegaref6_Fabric_Post_tab (k : Nat) : TabOk Tryz.prog (bodegaref6_Fabric_Post_C k) := ⟨tab_cons (bodegaref6_Fabric_alive_ok k) (tab_cons (bodegaref4_Valid_ok k) (tab_cons (bodegaref6_Pair_Post_ok k) (tab_nil))), lay_nil⟩
noncomputable def bodegaref6_Fabric_Post_ac (k : Nat) : AC := (.sq .rg (.sq (.bk (.sq .rg (.cd (.sq .rg .nx) (.sq .rg (.cd (.sq .rg .nx) (.sq .rg (.cd (.sq .rg .nx) (.sq .rg (.cd (.sq .rg .nx) .nx))))))))) (.sq (.sq .rg (.bk (.lp [(0, .bo y1 q1), (1, .va (.int .i64) .s), (2, .va (.list y2) .s), (7, .va (.int .i64) .s)] [(.ret, [(0, .bo y1 q1), (6, .va (.int .i64) .s)]), (.exit 1, [(0, .bo y1 q1), (1, .va (.int .i64) .s), (2, .va (.list y2) .s)])] (fun s => bodegaref6_Fabric_Post_L1 k s.1 s.2.1 s.2.2.1 s.2.2.2.1) (.sq (.sq .rg (.cd .nx .nx)) (.sq (.bk (.sq .rg (.sq .rg (.cd (.sq .rg .nx) .nx)))) .rg))))) (.sq (.sq .rg (.bk (.lp [(0, .bo y1 q1), (1, .va (.int .i64) .s), (2, .va (.list y2) .s), (9, .va (.int .i64) .s)] [(.exit 3, [(0, .bo y1 q1), (1, .va (.int .i64) .s), (2, .va (.list y2) .s)])] (fun s => bodegaref6_Fabric_Post_L2 k s.1 s.2.1 s.2.2.1 s.2.2.2.1) (.sq (.sq .rg (.cd .nx .nx)) (.sq (.bk .rg) .rg))))) (.sq .rg (.sq .rg (.sq .rg (.sq .rg .nx))))))))
theorem bodegaref6_Fabric_Post_fix (k : Nat) : acFix (bodegaref6_Fabric_Post_C k) k 124 (bodegaref6_Fabric_Post_ac k) bodegaref6_Fabric_Post_code = bodegaref6_Fabric_Post_ac k := by kernel_rfl
theorem bodegaref6_Fabric_Post_eq (k : Nat) (s : bodegaref6_Fabric_Post_sig.S) : fnEv (bodegaref6_Fabric_Post_C k) k bodegaref6_Fabric_Post_sig Tryz.f75 bodegaref6_Fabric_Post_code (bodegaref6_Fabric_Post_ac k) s = (bodegaref6_Fabric_Post_te k).F s := by kernel_rfl
theorem bodegaref6_Fabric_Post_ok (k : Nat) : CallOk Tryz.prog 75 (bodegaref6_Fabric_Post_te k) :=
  fn_ok (C := bodegaref6_Fabric_Post_C k) (code := bodegaref6_Fabric_Post_code) (g := bodegaref6_Fabric_Post_sig) (k := k) (Fn := (bodegaref6_Fabric_Post_te k).F) mixed (tysOk _ _ _) (eqsOk _ _ _) (bodegaref6_Fabric_Post_tab k) Tryz.func75 (by kernel_rfl) (by kernel_rfl) (of_decide_eq_true (by kernel_rfl)) (by kernel_rfl) (by kernel_rfl) (by kernel_rfl)
    (fun s q h => ⟨bodegaref6_Fabric_Post_ac k, ok_of_fix _ _ (bodegaref6_Fabric_Post_fix k), (bodegaref6_Fabric_Post_eq k s).trans h⟩)

/-! #### (*bodega/bodegaref6.Fabric).Waiting -/
noncomputable def bodegaref6_Fabric_Waiting_L1 (_k : Nat) (f_0 : TFabric) (c_1 : Int) (n_5 : Int) (i_6 : Int) : Option ((TFabric × Int × Int × Int × Unit) ⊕ ((TFabric × Int × Unit))) :=
  bif (decide ((0:Int) ≤ c_1) && decide (c_1 < (f_0.2.2.1.length : Int))) then
    bif (decide (i_6 < ((f_0.2.2.1.getD (c_1.toNat) (false, (0:Int), false, ([] : (List TClocksOutcome)), ([] : (List Bool)), (0:Int), (0:Int), ())).2.2.2.2.1.length : Int))) then
      bif (decide ((0:Int) ≤ c_1) && decide (c_1 < (f_0.2.2.1.length : Int))) then
        bif (decide ((0:Int) ≤ i_6) && decide (i_6 < ((f_0.2.2.1.getD (c_1.toNat) (false, (0:Int), false, ([] : (List TClocksOutcome)), ([] : (List Bool)), (0:Int), (0:Int), ())).2.2.2.2.1.length : Int))) then
          bif (!((f_0.2.2.1.getD (c_1.toNat) (false, (0:Int), false, ([] : (List TClocksOutcome)), ([] : (List Bool)), (0:Int), (0:Int), ())).2.2.2.2.1.getD (i_6.toNat) false)) then
            some (.inl (f_0, c_1, (IntKind.i64.wrap (n_5 + (1:Int))), (IntKind.i64.wrap (i_6 + (1:Int))), ()))
          else
            some (.inl (f_0, c_1, n_5, (IntKind.i64.wrap (i_6 + (1:Int))), ()))
        else none
      else none
    else
      some (.inr (f_0, n_5, ()))
  else none
noncomputable def bodegaref6_Fabric_Waiting_L1_it (k : Nat) (f_0 : TFabric) (c_1 : Int) (n_5 : Int) (i_6 : Int) : Option ((TFabric × Int × Unit)) :=
  iterO (fun s : TFabric × Int × Int × Int × Unit => bodegaref6_Fabric_Waiting_L1 k s.1 s.2.1 s.2.2.1 s.2.2.2.1) k (f_0, c_1, n_5, i_6, ())
noncomputable def bodegaref6_Fabric_Waiting (k : Nat) (f_0 : TFabric) (c_1 : Int) : Option (Int × TFabric × Unit) :=
  bif ((decide ((0:Int) ≤ c_1) && decide (c_1 < (f_0.2.2.1.length : Int))) || (!(!(bif (decide (c_1 < (0:Int))) then true else (decide ((f_0.2.2.1.length : Int) ≤ c_1)))))) then
    bif (bif (bif (decide (c_1 < (0:Int))) then true else (decide ((f_0.2.2.1.length : Int) ≤ c_1))) then true else (!(f_0.2.2.1.getD (c_1.toNat) (false, (0:Int), false, ([] : (List TClocksOutcome)), ([] : (List Bool)), (0:Int), (0:Int), ())).2.2.1)) then
      some ((0:Int), f_0, ())
    else
      Option.bind (bodegaref6_Fabric_Waiting_L1_it k f_0 c_1 (0:Int) (0:Int)) fun o1 =>
      some (o1.2.1, o1.1, ())
  else none
def bodegaref6_Fabric_Waiting_sig : Sig := ⟨[⟨true, y1, q1, q1⟩, ⟨false, (.int .i64), .s, .s⟩], [((.int .i64), .s)]⟩
noncomputable def bodegaref6_Fabric_Waiting_te (k : Nat) : TE := ⟨bodegaref6_Fabric_Waiting_sig, fun s => bodegaref6_Fabric_Waiting k s.1 s.2.1⟩
noncomputable def bodegaref6_Fabric_Waiting_C (_k : Nat) : Ctx := cx [] [] []
noncomputable def bodegaref6_Fabric_Waiting_code : Code := Tryz.f76.body.getD .skip
theorem bodegaref6_Fabric_Waiting_tab (k : Nat) : TabOk Tryz.prog (bodegaref6_Fabric_Waiting_C k) := ⟨tab_nil, lay_nil⟩
noncomputable def bodegaref6_Fabric_Waiting_ac (k : Nat) : AC := (.sq .rg (.sq (.sq .rg (.cd (.sq .rg .nx) .nx)) (.sq .rg (.sq (.sq .rg (.bk (.lp [(0, .bo y1 q1), (1, .va (.int .i64) .s), (5, .va (.int .i64) .s), (6, .va (.int .i64) .s)] [(.exit 0, [(0, .bo y1 q1), (5, .va (.int .i64) .s)])] (fun s => bodegaref6_Fabric_Waiting_L1 k s.1 s.2.1 s.2.2.1 s.2.2.2.1) (.sq (.sq .rg (.cd .nx .nx)) (.sq (.bk (.sq .rg (.cd .rg .nx))) .rg))))) (.sq .rg .nx)))))
theorem bodegaref6_Fabric_Waiting_fix (k : Nat) : acFix (bodegaref6_Fabric_Waiting_C k) k 57 (bodegaref6_Fabric_Waiting_ac k) bodegaref6_Fabric_Waiting_code = bodegaref6_Fabric_Waiting_ac k := by kernel_rfl
theorem bodegaref6_Fabric_Waiting_eq (k : Nat) (s : bodegaref6_Fabric_Waiting_sig.S) : fnEv (bodegaref6_Fabric_Waiting_C k) k bodegaref6_Fabric_Waiting_sig Tryz.f76 bodegaref6_Fabric_Waiting_code (bodegaref6_Fabric_Waiting_ac k) s = (bodegaref6_Fabric_Waiting_te k).F s := by kernel_rfl
theorem bodegaref6_Fabric_Waiting_ok (k : Nat) : CallOk Tryz.prog 76 (bodegaref6_Fabric_Waiting_te k) :=
  fn_ok (C := bodegaref6_Fabric_Waiting_C k) (code := bodegaref6_Fabric_Waiting_code) (g := bodegaref6_Fabric_Waiting_sig) (k := k) (Fn := (bodegaref6_Fabric_Waiting_te k).F) mixed (tysOk _ _ _) (eqsOk _ _ _) (bodegaref6_Fabric_Waiting_tab k) Tryz.func76 (by kernel_rfl) (by kernel_rfl) (of_decide_eq_true (by kernel_rfl)) (by kernel_rfl) (by kernel_rfl) (by kernel_rfl)
    (fun s q h => ⟨bodegaref6_Fabric_Waiting_ac k, ok_of_fix _ _ (bodegaref6_Fabric_Waiting_fix k), (bodegaref6_Fabric_Waiting_eq k s).trans h⟩)

/-! #### (*bodega/bodegaref6.Fabric).Choices -/
noncomputable def bodegaref6_Fabric_Choices_L2 (_k : Nat) (f_0 : TFabric) (l_3 : (List TChoice)) (c_4 : Int) (i_5 : Int) : Option ((TFabric × (List TChoice) × Int × Int × Unit) ⊕ ((TFabric × (List TChoice) × Int × Unit))) :=
  bif (decide ((0:Int) ≤ c_4) && decide (c_4 < (f_0.2.2.2.1.length : Int))) then
    bif (decide (i_5 < ((f_0.2.2.2.1.getD (c_4.toNat) ([] : (List TPair))).length : Int))) then
      bif (decide ((0:Int) ≤ c_4) && decide (c_4 < (f_0.2.2.2.1.length : Int))) then
        bif (decide ((0:Int) ≤ i_5) && decide (i_5 < ((f_0.2.2.2.1.getD (c_4.toNat) ([] : (List TPair))).length : Int))) then
          bif (decide ((0:Int) < (((f_0.2.2.2.1.getD (c_4.toNat) ([] : (List TPair))).getD (i_5.toNat) ((0:Int), (0:Int), (0:Int), ([] : (List Tpending)), ())).2.2.2.1.length : Int))) then
            bif (decide (l_3.length + [((-1:Int), c_4, i_5, ())].length < 1073741824)) then
              some (.inl (f_0, (l_3 ++ [((-1:Int), c_4, i_5, ())]), c_4, (IntKind.i64.wrap (i_5 + (1:Int))), ()))
            else none
          else
            some (.inl (f_0, l_3, c_4, (IntKind.i64.wrap (i_5 + (1:Int))), ()))
        else none
      else none
    else
      some (.inr (f_0, l_3, c_4, ()))
  else none
noncomputable def bodegaref6_Fabric_Choices_L2_it (k : Nat) (f_0 : TFabric) (l_3 : (List TChoice)) (c_4 : Int) (i_5 : Int) : Option ((TFabric × (List TChoice) × Int × Unit)) :=
  iterO (fun s : TFabric × (List TChoice) × Int × Int × Unit => bodegaref6_Fabric_Choices_L2 k s.1 s.2.1 s.2.2.1 s.2.2.2.1) k (f_0, l_3, c_4, i_5, ())
noncomputable def bodegaref6_Fabric_Choices_L1 (k : Nat) (f_0 : TFabric) (l_3 : (List TChoice)) (c_4 : Int) : Option ((TFabric × (List TChoice) × Int × Unit) ⊕ ((TFabric × (List TChoice) × Unit))) :=
  bif (decide (c_4 < (f_0.2.2.2.1.length : Int))) then
    Option.bind (bodegaref6_Fabric_Choices_L2_it k f_0 l_3 c_4 (0:Int)) fun o1 =>
    some (.inl (o1.1, o1.2.1, (IntKind.i64.wrap (o1.2.2.1 + (1:Int))), ()))
  else
    some (.inr (f_0, l_3, ()))
noncomputable def bodegaref6_Fabric_Choices_L1_it (k : Nat) (f_0 : TFabric) (l_3 : (List TChoice)) (c_4 : Int) : Option ((TFabric × (List TChoice) × Unit)) :=
  iterO (fun s : TFabric × (List TChoice) × Int × Unit => bodegaref6_Fabric_Choices_L1 k s.1 s.2.1 s.2.2.1) k (f_0, l_3, c_4, ())
noncomputable def bodegaref6_Fabric_Choices_L3 (_k : Nat) (f_0 : TFabric) (l_3 : (List TChoice)) (i_6 : Int) : Option ((TFabric × (List TChoice) × Int × Unit) ⊕ ((TFabric × (List TChoice) × Unit))) :=
  bif (decide (i_6 < (f_0.2.2.2.2.1.length : Int))) then
    bif (decide ((0:Int) ≤ i_6) && decide (i_6 < (f_0.2.2.2.2.1.length : Int))) then
      bif (decide ((0:Int) ≤ i_6) && decide (i_6 < (f_0.2.2.2.2.1.length : Int))) then
        bif (decide (l_3.length + [(i_6, (f_0.2.2.2.2.1.getD (i_6.toNat) ((0:Int), (0:Int), (0:Int), ([] : (List Tpending)), ())).1, (f_0.2.2.2.2.1.getD (i_6.toNat) ((0:Int), (0:Int), (0:Int), ([] : (List Tpending)), ())).2.2.1, ())].length < 1073741824)) then
          some (.inl (f_0, (l_3 ++ [(i_6, (f_0.2.2.2.2.1.getD (i_6.toNat) ((0:Int), (0:Int), (0:Int), ([] : (List Tpending)), ())).1, (f_0.2.2.2.2.1.getD (i_6.toNat) ((0:Int), (0:Int), (0:Int), ([] : (List Tpending)), ())).2.2.1, ())]), (IntKind.i64.wrap (i_6 + (1:Int))), ()))
        else none
      else none
    else none
  else
    some (.inr (f_0, l_3, ()))
noncomputable def bodegaref6_Fabric_Choices_L3_it (k : Nat) (f_0 : TFabric) (l_3 : (List TChoice)) (i_6 : Int) : Option ((TFabric × (List TChoice) × Unit)) :=
  iterO (fun s : TFabric × (List TChoice) × Int × Unit => bodegaref6_Fabric_Choices_L3 k s.1 s.2.1 s.2.2.1) k (f_0, l_3, i_6, ())
noncomputable def bodegaref6_Fabric_Choices (k : Nat) (f_0 : TFabric) : Option ((List TChoice) × TFabric × Unit) :=
  Option.bind (bodegaref6_Fabric_Choices_L1_it k f_0 ([] : (List TChoice)) (0:Int)) fun o2 =>
  Option.bind (bodegaref6_Fabric_Choices_L3_it k o2.1 o2.2.1 (0:Int)) fun o3 =>
  some (o3.2.1, o3.1, ())
def bodegaref6_Fabric_Choices_sig : Sig := ⟨[⟨true, y1, q1, q1⟩], [((.list (.pair (.int .i64) y7)), (.o .s))]⟩
noncomputable def bodegaref6_Fabric_Choices_te (k : Nat) : TE := ⟨bodegaref6_Fabric_Choices_sig, fun s => bodegaref6_Fabric_Choices k s.1⟩
noncomputable def bodegaref6_Fabric_Choices_C (_k : Nat) : Ctx := cx [] [] []
noncomputable def bodegaref6_Fabric_Choices_code : Code := Tryz.f78.body.getD .skip
theorem bodegaref6_Fabric_Choices_tab (k : Nat) : TabOk Tryz.prog (bodegaref6_Fabric_Choices_C k) := ⟨tab_nil, lay_nil⟩
noncomputable def bodegaref6_Fabric_Choices_ac (k : Nat) : AC := (.sq .rg (.sq .rg (.sq (.sq .rg (.bk (.lp [(0, .bo y1 q1), (3, .va (.list (.pair (.int .i64) y7)) (.o .s)), (4, .va (.int .i64) .s)] [(.exit 0, [(0, .bo y1 q1), (3, .va (.list (.pair (.int .i64) y7)) (.o .s))])] (fun s => bodegaref6_Fabric_Choices_L1 k s.1 s.2.1 s.2.2.1) (.sq (.sq .rg (.cd .nx .nx)) (.sq (.bk (.sq .rg (.bk (.lp [(0, .bo y1 q1), (3, .va (.list (.pair (.int .i64) y7)) (.o .s)), (4, .va (.int .i64) .s), (5, .va (.int .i64) .s)] [(.exit 2, [(0, .bo y1 q1), (3, .va (.list (.pair (.int .i64) y7)) (.o .s)), (4, .va (.int .i64) .s)])] (fun s => bodegaref6_Fabric_Choices_L2 k s.1 s.2.1 s.2.2.1 s.2.2.2.1) (.sq (.sq .rg (.cd .nx .nx)) (.sq (.bk (.sq .rg (.cd .rg .nx))) .rg)))))) .rg))))) (.sq (.sq .rg (.bk (.lp [(0, .bo y1 q1), (3, .va (.list (.pair (.int .i64) y7)) (.o .s)), (6, .va (.int .i64) .s)] [(.exit 4, [(0, .bo y1 q1), (3, .va (.list (.pair (.int .i64) y7)) (.o .s))])] (fun s => bodegaref6_Fabric_Choices_L3 k s.1 s.2.1 s.2.2.1) (.sq (.sq .rg (.cd .nx .nx)) (.sq (.bk .rg) .rg))))) (.sq .rg .nx)))))
theorem bodegaref6_Fabric_Choices_fix (k : Nat) : acFix (bodegaref6_Fabric_Choices_C k) k 78 (bodegaref6_Fabric_Choices_ac k) bodegaref6_Fabric_Choices_code = bodegaref6_Fabric_Choices_ac k := by kernel_rfl
theorem bodegaref6_Fabric_Choices_eq (k : Nat) (s : bodegaref6_Fabric_Choices_sig.S) : fnEv (bodegaref6_Fabric_Choices_C k) k bodegaref6_Fabric_Choices_sig Tryz.f78 bodegaref6_Fabric_Choices_code (bodegaref6_Fabric_Choices_ac k) s = (bodegaref6_Fabric_Choices_te k).F s := by kernel_rfl
theorem bodegaref6_Fabric_Choices_ok (k : Nat) : CallOk Tryz.prog 78 (bodegaref6_Fabric_Choices_te k) :=
  fn_ok (C := bodegaref6_Fabric_Choices_C k) (code := bodegaref6_Fabric_Choices_code) (g := bodegaref6_Fabric_Choices_sig) (k := k) (Fn := (bodegaref6_Fabric_Choices_te k).F) mixed (tysOk _ _ _) (eqsOk _ _ _) (bodegaref6_Fabric_Choices_tab k) Tryz.func78 (by kernel_rfl) (by kernel_rfl) (of_decide_eq_true (by kernel_rfl)) (by kernel_rfl) (by kernel_rfl) (by kernel_rfl)
    (fun s q h => ⟨bodegaref6_Fabric_Choices_ac k, ok_of_fix _ _ (bodegaref6_Fabric_Choices_fix k), (bodegaref6_Fabric_Choices_eq k s).trans h⟩)

/-! #### bodega/bodegaref6.at -/
noncomputable def bodegaref6_at (_k : Nat) (n_0 : TNode) (i_1 : Int) : Option (Int × TNode × Unit) :=
  bif (bif (decide (i_1 < (0:Int))) then true else (decide ((n_0.1.length : Int) ≤ i_1))) then
    some ((0:Int), n_0, ())
  else
    bif (decide ((0:Int) ≤ i_1) && decide (i_1 < (n_0.1.length : Int))) then
      some ((n_0.1.getD (i_1.toNat) (0:Int)), n_0, ())
    else none
def bodegaref6_at_sig : Sig := ⟨[⟨true, y10, (.p (.o .s) .s), (.p (.o .s) .s)⟩, ⟨false, (.int .i64), .s, .s⟩], [((.int .u64), .s)]⟩
noncomputable def bodegaref6_at_te (k : Nat) : TE := ⟨bodegaref6_at_sig, fun s => bodegaref6_at k s.1 s.2.1⟩
noncomputable def bodegaref6_at_C (_k : Nat) : Ctx := cx [] [] []
noncomputable def bodegaref6_at_code : Code := Tryz.f109.body.getD .skip
theorem bodegaref6_at_tab (k : Nat) : TabOk Tryz.prog (bodegaref6_at_C k) := ⟨tab_nil, lay_nil⟩
noncomputable def bodegaref6_at_ac (_k : Nat) : AC := (.sq .rg (.sq (.sq .rg (.cd (.sq .rg .nx) .nx)) (.sq .rg .nx)))
theorem bodegaref6_at_fix (k : Nat) : acFix (bodegaref6_at_C k) k 23 (bodegaref6_at_ac k) bodegaref6_at_code = bodegaref6_at_ac k := by kernel_rfl
theorem bodegaref6_at_eq (k : Nat) (s : bodegaref6_at_sig.S) : fnEv (bodegaref6_at_C k) k bodegaref6_at_sig Tryz.f109 bodegaref6_at_code (bodegaref6_at_ac k) s = (bodegaref6_at_te k).F s := by kernel_rfl
theorem bodegaref6_at_ok (k : Nat) : CallOk Tryz.prog 109 (bodegaref6_at_te k) :=
  fn_ok (C := bodegaref6_at_C k) (code := bodegaref6_at_code) (g := bodegaref6_at_sig) (k := k) (Fn := (bodegaref6_at_te k).F) mixed (tysOk _ _ _) (eqsOk _ _ _) (bodegaref6_at_tab k) Tryz.func109 (by kernel_rfl) (by kernel_rfl) (of_decide_eq_true (by kernel_rfl)) (by kernel_rfl) (by kernel_rfl) (by kernel_rfl)
    (fun s q h => ⟨bodegaref6_at_ac k, ok_of_fix _ _ (bodegaref6_at_fix k), (bodegaref6_at_eq k s).trans h⟩)

/-! #### bodega/bodegaref4.Control -/
noncomputable def bodegaref4_Control (k : Nat) (v_0 : TVerb) : Option (Bool × Unit) :=
  Option.bind (bodegaref4_Count k v_0) fun r1 =>
  some ((bif (decide ((IntKind.i64.wrap (Int.tdiv (IntKind.i64.wrap ((IntKind.i64.wrap (v_0.2.2.1 + r1.1)) - (1:Int))) (8:Int))) < (3:Int))) then true else (bif (decide (v_0.1 = (1:Int))) then (decide ((IntKind.i64.wrap (Int.tdiv (IntKind.i64.wrap ((IntKind.i64.wrap (v_0.2.2.1 + r1.1)) - (1:Int))) (8:Int))) = (3:Int))) else false)), ())
def bodegaref4_Control_sig : Sig := ⟨[⟨false, y2, .s, .s⟩], [(.bool, .s)]⟩
noncomputable def bodegaref4_Control_te (k : Nat) : TE := ⟨bodegaref4_Control_sig, fun s => bodegaref4_Control k s.1⟩
noncomputable def bodegaref4_Control_C (k : Nat) : Ctx := cx [(107, bodegaref4_Count_te k)] [] []
noncomputable def bodegaref4_Control_code : Code := Tryz.f123.body.getD .skip
theorem bodegaref4_Control_tab (k : Nat) : TabOk Tryz.prog (bodegaref4_Control_C k) := ⟨tab_cons (bodegaref4_Count_ok k) (tab_nil), lay_nil⟩
noncomputable def bodegaref4_Control_ac (_k : Nat) : AC := (.sq .rg (.sq .rg (.sq .rg .nx)))
theorem bodegaref4_Control_fix (k : Nat) : acFix (bodegaref4_Control_C k) k 22 (bodegaref4_Control_ac k) bodegaref4_Control_code = bodegaref4_Control_ac k := by kernel_rfl
theorem bodegaref4_Control_eq (k : Nat) (s : bodegaref4_Control_sig.S) : fnEv (bodegaref4_Control_C k) k bodegaref4_Control_sig Tryz.f123 bodegaref4_Control_code (bodegaref4_Control_ac k) s = (bodegaref4_Control_te k).F s := by kernel_rfl
theorem bodegaref4_Control_ok (k : Nat) : CallOk Tryz.prog 123 (bodegaref4_Control_te k) :=
  fn_ok (C := bodegaref4_Control_C k) (code := bodegaref4_Control_code) (g := bodegaref4_Control_sig) (k := k) (Fn := (bodegaref4_Control_te k).F) mixed (tysOk _ _ _) (eqsOk _ _ _) (bodegaref4_Control_tab k) Tryz.func123 (by kernel_rfl) (by kernel_rfl) (of_decide_eq_true (by kernel_rfl)) (by kernel_rfl) (by kernel_rfl) (by kernel_rfl)
    (fun s q h => ⟨bodegaref4_Control_ac k, ok_of_fix _ _ (bodegaref4_Control_fix k), (bodegaref4_Control_eq k s).trans h⟩)

/-! #### bodega/bodegaref4.Check -/
noncomputable def bodegaref4_Check (k : Nat) (v_0 : TVerb) (inc_1 : Int) (door_2 : Int) (key_3 : Int) (boot_4 : Int) : Option (Int × Unit) :=
  Option.bind (bif (decide (v_0.1 = (1:Int))) then bodegaref4_Control k v_0 else some (false, ())) fun r1 =>
  bif (bif (decide (v_0.1 = (1:Int))) then r1.1 else false) then
    some ((0:Int), ())
  else
    bif (bif (decide (inc_1 < (0:Int))) then true else (decide ((IntKind.u64.wrap inc_1) < door_2))) then
      some ((5:Int), ())
    else
      Option.bind (bodegaref4_Control k v_0) fun r2 =>
      bif r2.1 then
        some ((0:Int), ())
      else
        bif (bif (bif (decide (v_0.2.2.2.2.2.2.2.2.1 < (0:Int))) then true else (!(decide ((IntKind.u64.wrap v_0.2.2.2.2.2.2.2.2.1) = boot_4)))) then true else (!(decide (v_0.2.2.2.2.2.2.2.1 = key_3)))) then
          some ((5:Int), ())
        else
          some ((0:Int), ())
def bodegaref4_Check_sig : Sig := ⟨[⟨false, y2, .s, .s⟩, ⟨false, (.int .i64), .s, .s⟩, ⟨false, (.int .u64), .s, .s⟩, ⟨false, (.int .u64), .s, .s⟩, ⟨false, (.int .u64), .s, .s⟩], [((.int .i64), .s)]⟩
noncomputable def bodegaref4_Check_te (k : Nat) : TE := ⟨bodegaref4_Check_sig, fun s => bodegaref4_Check k s.1 s.2.1 s.2.2.1 s.2.2.2.1 s.2.2.2.2.1⟩
noncomputable def bodegaref4_Check_C (k : Nat) : Ctx := cx [(123, bodegaref4_Control_te k)] [] []
noncomputable def bodegaref4_Check_code : Code := Tryz.f108.body.getD .skip
theorem bodegaref4_Check_tab (k : Nat) : TabOk Tryz.prog (bodegaref4_Check_C k) := ⟨tab_cons (bodegaref4_Control_ok k) (tab_nil), lay_nil⟩
noncomputable def bodegaref4_Check_ac (_k : Nat) : AC := (.sq .rg (.sq (.bk (.sq .rg (.cd (.sq .rg .nx) (.sq .rg (.cd (.sq .rg .nx) (.sq .rg (.cd (.sq .rg .nx) (.sq .rg (.cd (.sq .rg .nx) .nx))))))))) (.sq .rg .nx)))
theorem bodegaref4_Check_fix (k : Nat) : acFix (bodegaref4_Check_C k) k 48 (bodegaref4_Check_ac k) bodegaref4_Check_code = bodegaref4_Check_ac k := by kernel_rfl
theorem bodegaref4_Check_eq (k : Nat) (s : bodegaref4_Check_sig.S) : fnEv (bodegaref4_Check_C k) k bodegaref4_Check_sig Tryz.f108 bodegaref4_Check_code (bodegaref4_Check_ac k) s = (bodegaref4_Check_te k).F s := by kernel_rfl
theorem bodegaref4_Check_ok (k : Nat) : CallOk Tryz.prog 108 (bodegaref4_Check_te k) :=
  fn_ok (C := bodegaref4_Check_C k) (code := bodegaref4_Check_code) (g := bodegaref4_Check_sig) (k := k) (Fn := (bodegaref4_Check_te k).F) mixed (tysOk _ _ _) (eqsOk _ _ _) (bodegaref4_Check_tab k) Tryz.func108 (by kernel_rfl) (by kernel_rfl) (of_decide_eq_true (by kernel_rfl)) (by kernel_rfl) (by kernel_rfl) (by kernel_rfl)
    (fun s q h => ⟨bodegaref4_Check_ac k, ok_of_fix _ _ (bodegaref4_Check_fix k), (bodegaref4_Check_eq k s).trans h⟩)

/-! #### bodega/bodegaref4.Pieces -/
noncomputable def bodegaref4_Pieces_L1 (_k : Nat) (l_3 : (List THolding)) (t_4 : Int) (left_5 : Int) : Option (((List THolding) × Int × Int × Unit) ⊕ (((List THolding) × Unit))) :=
  bif (decide ((0:Int) < left_5)) then
    bif (decide (l_3.length + [(t_4, (bif (decide ((IntKind.i64.wrap ((8:Int) - (Int.tmod t_4 (8:Int)))) < left_5)) then (IntKind.i64.wrap ((8:Int) - (Int.tmod t_4 (8:Int)))) else left_5), ())].length < 1073741824)) then
      some (.inl ((l_3 ++ [(t_4, (bif (decide ((IntKind.i64.wrap ((8:Int) - (Int.tmod t_4 (8:Int)))) < left_5)) then (IntKind.i64.wrap ((8:Int) - (Int.tmod t_4 (8:Int)))) else left_5), ())]), (IntKind.i64.wrap (t_4 + (bif (decide ((IntKind.i64.wrap ((8:Int) - (Int.tmod t_4 (8:Int)))) < left_5)) then (IntKind.i64.wrap ((8:Int) - (Int.tmod t_4 (8:Int)))) else left_5))), (IntKind.i64.wrap (left_5 - (bif (decide ((IntKind.i64.wrap ((8:Int) - (Int.tmod t_4 (8:Int)))) < left_5)) then (IntKind.i64.wrap ((8:Int) - (Int.tmod t_4 (8:Int)))) else left_5))), ()))
    else none
  else
    some (.inr (l_3, ()))
noncomputable def bodegaref4_Pieces_L1_it (k : Nat) (l_3 : (List THolding)) (t_4 : Int) (left_5 : Int) : Option (((List THolding) × Unit)) :=
  iterO (fun s : (List THolding) × Int × Int × Unit => bodegaref4_Pieces_L1 k s.1 s.2.1 s.2.2.1) k (l_3, t_4, left_5, ())
noncomputable def bodegaref4_Pieces (k : Nat) (v_0 : TVerb) : Option ((List THolding) × Unit) :=
  Option.bind (bodegaref4_Count k v_0) fun r1 =>
  Option.bind (bodegaref4_Pieces_L1_it k ([] : (List THolding)) v_0.2.2.1 r1.1) fun o2 =>
  some (o2.1, ())
def bodegaref4_Pieces_sig : Sig := ⟨[⟨false, y2, .s, .s⟩], [((.list y7), (.o .s))]⟩
noncomputable def bodegaref4_Pieces_te (k : Nat) : TE := ⟨bodegaref4_Pieces_sig, fun s => bodegaref4_Pieces k s.1⟩
noncomputable def bodegaref4_Pieces_C (k : Nat) : Ctx := cx [(107, bodegaref4_Count_te k)] [] []
noncomputable def bodegaref4_Pieces_code : Code := Tryz.f110.body.getD .skip
theorem bodegaref4_Pieces_tab (k : Nat) : TabOk Tryz.prog (bodegaref4_Pieces_C k) := ⟨tab_cons (bodegaref4_Count_ok k) (tab_nil), lay_nil⟩
noncomputable def bodegaref4_Pieces_ac (k : Nat) : AC := (.sq .rg (.sq .rg (.sq .rg (.sq (.bk (.lp [(3, .va (.list y7) (.o .s)), (4, .va (.int .i64) .s), (5, .va (.int .i64) .s)] [(.exit 0, [(3, .va (.list y7) (.o .s))])] (fun s => bodegaref4_Pieces_L1 k s.1 s.2.1 s.2.2.1) (.sq (.sq .rg (.cd .nx .nx)) (.bk (.sq .rg (.sq .rg .rg)))))) (.sq .rg .nx)))))
theorem bodegaref4_Pieces_fix (k : Nat) : acFix (bodegaref4_Pieces_C k) k 31 (bodegaref4_Pieces_ac k) bodegaref4_Pieces_code = bodegaref4_Pieces_ac k := by kernel_rfl
theorem bodegaref4_Pieces_eq (k : Nat) (s : bodegaref4_Pieces_sig.S) : fnEv (bodegaref4_Pieces_C k) k bodegaref4_Pieces_sig Tryz.f110 bodegaref4_Pieces_code (bodegaref4_Pieces_ac k) s = (bodegaref4_Pieces_te k).F s := by kernel_rfl
theorem bodegaref4_Pieces_ok (k : Nat) : CallOk Tryz.prog 110 (bodegaref4_Pieces_te k) :=
  fn_ok (C := bodegaref4_Pieces_C k) (code := bodegaref4_Pieces_code) (g := bodegaref4_Pieces_sig) (k := k) (Fn := (bodegaref4_Pieces_te k).F) mixed (tysOk _ _ _) (eqsOk _ _ _) (bodegaref4_Pieces_tab k) Tryz.func110 (by kernel_rfl) (by kernel_rfl) (of_decide_eq_true (by kernel_rfl)) (by kernel_rfl) (by kernel_rfl) (by kernel_rfl)
    (fun s q h => ⟨bodegaref4_Pieces_ac k, ok_of_fix _ _ (bodegaref4_Pieces_fix k), (bodegaref4_Pieces_eq k s).trans h⟩)

/-! #### bodega/bodegaref6.execute -/
noncomputable def bodegaref6_execute_L1 (_k : Nat) (n_0 : TNode) (v_4 : TVerb) (t_5 : THolding) (i_8 : Int) : Option ((TNode × TVerb × THolding × Int × Unit) ⊕ ((TNode × Unit))) :=
  bif (decide (i_8 < t_5.2.1)) then
    bif (decide ((0:Int) ≤ (IntKind.i64.wrap ((IntKind.i64.wrap (t_5.1 - v_4.2.2.1)) + i_8))) && decide ((IntKind.i64.wrap ((IntKind.i64.wrap (t_5.1 - v_4.2.2.1)) + i_8)) < (v_4.2.2.2.2.2.2.1.length : Int))) then
      bif (decide ((0:Int) ≤ (IntKind.i64.wrap (t_5.1 + i_8))) && decide ((IntKind.i64.wrap (t_5.1 + i_8)) < (n_0.1.length : Int))) then
        some (.inl (((n_0.1.set ((IntKind.i64.wrap (t_5.1 + i_8)).toNat) (v_4.2.2.2.2.2.2.1.getD ((IntKind.i64.wrap ((IntKind.i64.wrap (t_5.1 - v_4.2.2.1)) + i_8)).toNat) (0:Int))), n_0.2), v_4, t_5, (IntKind.i64.wrap (i_8 + (1:Int))), ()))
      else none
    else none
  else
    some (.inr (n_0, ()))
noncomputable def bodegaref6_execute_L1_it (k : Nat) (n_0 : TNode) (v_4 : TVerb) (t_5 : THolding) (i_8 : Int) : Option ((TNode × Unit)) :=
  iterO (fun s : TNode × TVerb × THolding × Int × Unit => bodegaref6_execute_L1 k s.1 s.2.1 s.2.2.1 s.2.2.2.1) k (n_0, v_4, t_5, i_8, ())
noncomputable def bodegaref6_execute (k : Nat) (n_0 : TNode) (v_1 : TVerb) (t_2 : THolding) : Option ((List Int) × TNode × Unit) :=
  bif (decide ((0:Int) ≤ t_2.1) && decide (t_2.1 ≤ (IntKind.i64.wrap (t_2.1 + t_2.2.1))) && decide ((IntKind.i64.wrap (t_2.1 + t_2.2.1)) ≤ (n_0.1.length : Int))) then
    bif (decide (([] : (List Int)).length + ((List.take ((IntKind.i64.wrap (t_2.1 + t_2.2.1)).toNat) n_0.1).drop (t_2.1.toNat)).length < 1073741824)) then
      bif (decide (v_1.1 = (1:Int))) then
        some ((([] : (List Int)) ++ ((List.take ((IntKind.i64.wrap (t_2.1 + t_2.2.1)).toNat) n_0.1).drop (t_2.1.toNat))), n_0, ())
      else
        bif (decide (v_1.1 = (2:Int))) then
          Option.bind (bodegaref6_execute_L1_it k n_0 v_1 t_2 (0:Int)) fun o1 =>
          some (([] : (List Int)), o1.1, ())
        else
          bif (decide (v_1.1 = (3:Int))) then
            bif (decide ((0:Int) ≤ (0:Int)) && decide ((0:Int) < ((([] : (List Int)) ++ ((List.take ((IntKind.i64.wrap (t_2.1 + t_2.2.1)).toNat) n_0.1).drop (t_2.1.toNat))).length : Int))) then
              bif (decide (((([] : (List Int)) ++ ((List.take ((IntKind.i64.wrap (t_2.1 + t_2.2.1)).toNat) n_0.1).drop (t_2.1.toNat))).getD 0 (0:Int)) = v_1.2.2.2.2.1)) then
                bif (decide ((0:Int) ≤ t_2.1) && decide (t_2.1 < (n_0.1.length : Int))) then
                  some ((([] : (List Int)) ++ ((List.take ((IntKind.i64.wrap (t_2.1 + t_2.2.1)).toNat) n_0.1).drop (t_2.1.toNat))), ((n_0.1.set (t_2.1.toNat) v_1.2.2.2.2.2.1), n_0.2), ())
                else none
              else
                some ((([] : (List Int)) ++ ((List.take ((IntKind.i64.wrap (t_2.1 + t_2.2.1)).toNat) n_0.1).drop (t_2.1.toNat))), n_0, ())
            else none
          else
            bif (decide (v_1.1 = (4:Int))) then
              bif (decide ((0:Int) ≤ (0:Int)) && decide ((0:Int) < ((([] : (List Int)) ++ ((List.take ((IntKind.i64.wrap (t_2.1 + t_2.2.1)).toNat) n_0.1).drop (t_2.1.toNat))).length : Int))) then
                bif (decide ((0:Int) ≤ t_2.1) && decide (t_2.1 < (n_0.1.length : Int))) then
                  some ((([] : (List Int)) ++ ((List.take ((IntKind.i64.wrap (t_2.1 + t_2.2.1)).toNat) n_0.1).drop (t_2.1.toNat))), ((n_0.1.set (t_2.1.toNat) (IntKind.u64.wrap (((([] : (List Int)) ++ ((List.take ((IntKind.i64.wrap (t_2.1 + t_2.2.1)).toNat) n_0.1).drop (t_2.1.toNat))).getD 0 (0:Int)) + v_1.2.2.2.2.2.1))), n_0.2), ())
                else none
              else none
            else
              some ((([] : (List Int)) ++ ((List.take ((IntKind.i64.wrap (t_2.1 + t_2.2.1)).toNat) n_0.1).drop (t_2.1.toNat))), n_0, ())
    else none
  else none
def bodegaref6_execute_sig : Sig := ⟨[⟨true, y10, (.p (.o .s) .s), (.p (.o .s) .s)⟩, ⟨false, y2, .s, .s⟩, ⟨false, y7, .s, .s⟩], [((.list (.int .u64)), (.o .s))]⟩
noncomputable def bodegaref6_execute_te (k : Nat) : TE := ⟨bodegaref6_execute_sig, fun s => bodegaref6_execute k s.1 s.2.1 s.2.2.1⟩
noncomputable def bodegaref6_execute_C (_k : Nat) : Ctx := cx [] [] []
noncomputable def bodegaref6_execute_code : Code := Tryz.f111.body.getD .skip
theorem bodegaref6_execute_tab (k : Nat) : TabOk Tryz.prog (bodegaref6_execute_C k) := ⟨tab_nil, lay_nil⟩
noncomputable def bodegaref6_execute_ac (k : Nat) : AC := (.sq .rg (.sq .rg (.sq (.sq .rg (.bk (.sq .rg (.cd (.sq .rg .nx) (.sq .rg (.cd (.sq (.sq .rg (.bk (.lp [(0, .bo y10 (.p (.o .s) .s)), (4, .bo y2 .s), (5, .bo y7 .s), (8, .va (.int .i64) .s)] [(.exit 1, [(0, .bo y10 (.p (.o .s) .s))])] (fun s => bodegaref6_execute_L1 k s.1 s.2.1 s.2.2.1 s.2.2.2.1) (.sq (.sq .rg (.cd .nx .nx)) (.sq (.bk .rg) .rg))))) (.sq .rg .nx)) (.sq .rg (.cd (.sq .rg (.cd .rg .nx)) (.sq .rg (.cd .rg .nx)))))))))) (.sq .rg .nx))))
theorem bodegaref6_execute_fix (k : Nat) : acFix (bodegaref6_execute_C k) k 88 (bodegaref6_execute_ac k) bodegaref6_execute_code = bodegaref6_execute_ac k := by kernel_rfl
theorem bodegaref6_execute_eq (k : Nat) (s : bodegaref6_execute_sig.S) : fnEv (bodegaref6_execute_C k) k bodegaref6_execute_sig Tryz.f111 bodegaref6_execute_code (bodegaref6_execute_ac k) s = (bodegaref6_execute_te k).F s := by kernel_rfl
theorem bodegaref6_execute_ok (k : Nat) : CallOk Tryz.prog 111 (bodegaref6_execute_te k) :=
  fn_ok (C := bodegaref6_execute_C k) (code := bodegaref6_execute_code) (g := bodegaref6_execute_sig) (k := k) (Fn := (bodegaref6_execute_te k).F) mixed (tysOk _ _ _) (eqsOk _ _ _) (bodegaref6_execute_tab k) Tryz.func111 (by kernel_rfl) (by kernel_rfl) (of_decide_eq_true (by kernel_rfl)) (by kernel_rfl) (by kernel_rfl) (by kernel_rfl)
    (fun s q h => ⟨bodegaref6_execute_ac k, ok_of_fix _ _ (bodegaref6_execute_fix k), (bodegaref6_execute_eq k s).trans h⟩)

end Go.Proofs.YtkgjdglkkoabmaaGreat.N
