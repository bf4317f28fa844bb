import Derived.Test.YtkgjdglkkoabmaaGreatN2

set_option maxRecDepth 1000000
namespace Go.Proofs.YtkgjdglkkoabmaaGreat.N
open Go.VL Go.Proofs

/-! #### (*bodega/bodegaref6.Pair).Step -/
noncomputable def bodegaref6_Pair_Step_J1 (k : Nat) (t_0 : TPair) (n_1 : TNode) (t_4 : TClocksOutcome) (x_8 : Tpending) : Option ((TPair × TNode × TClocksOutcome × Tpending × Int × Unit)) :=
  bif (!n_1.2.1) then
    some (t_0, n_1, t_4, x_8, (4:Int), ())
  else
    Option.bind (bodegaref4_Valid k x_8.1 (5:Int) (IntKind.i64.wrap (Int.tdiv (n_1.1.length : Int) (8:Int)))) fun r1 =>
    bif (!(decide (r1.1 = (0:Int)))) then
      some (t_0, n_1, t_4, x_8, (2:Int), ())
    else
      Option.bind (bodegaref1_Door k t_0.1) fun r2 =>
      Option.bind (bodegaref6_at k n_1 r2.1) fun r3 =>
      Option.bind (bodegaref6_at k r3.2.1 (0:Int)) fun r4 =>
      Option.bind (bodegaref6_at k r4.2.1 (1:Int)) fun r5 =>
      Option.bind (bodegaref4_Check k x_8.1 t_0.2.1 r3.1 r4.1 r5.1) fun r6 =>
      some (t_0, r5.2.1, t_4, x_8, r6.1, ())
noncomputable def bodegaref6_Pair_Step (k : Nat) (t_0 : TPair) (n_1 : TNode) : Option (TClocksOutcome × Int × Bool × Bool × TPair × TNode × Unit) :=
  bif (decide ((t_0.2.2.2.1.length : Int) = (0:Int))) then
    some (((0:Int), ([] : (List Int)), ()), (-1:Int), false, false, t_0, n_1, ())
  else
    bif (decide ((0:Int) ≤ (0:Int)) && decide ((0:Int) < (t_0.2.2.2.1.length : Int))) then
      Option.bind (bodegaref6_Pair_Step_J1 k t_0 n_1 ((0:Int), ([] : (List Int)), ()) (t_0.2.2.2.1.getD 0 (((0:Int), (0:Int), (0:Int), (0:Int), (0:Int), (0:Int), ([] : (List Int)), (0:Int), (0:Int), ()), (0:Int), ([] : (List Int)), (0:Int), ()))) fun o7 =>
      bif (!(decide (o7.2.2.2.2.1 = (0:Int)))) then
        bif (decide ((0:Int) ≤ (1:Int)) && decide ((1:Int) ≤ (o7.1.2.2.2.1.length : Int)) && decide ((o7.1.2.2.2.1.length : Int) ≤ (o7.1.2.2.2.1.length : Int))) then
          bif (decide (([] : (List Tpending)).length + ((List.take ((o7.1.2.2.2.1.length : Int).toNat) o7.1.2.2.2.1).drop 1).length < 1073741824)) then
            let v8 := (o7.1.1, o7.1.2.1, o7.1.2.2.1, (([] : (List Tpending)) ++ ((List.take ((o7.1.2.2.2.1.length : Int).toNat) o7.1.2.2.2.1).drop 1)), o7.1.2.2.2.2)
            some ((o7.2.2.2.2.1, ([] : (List Int)), ()), o7.2.2.2.1.2.2.2.1, true, true, v8, o7.2.1, ())
          else none
        else none
      else
        Option.bind (bodegaref4_Pieces k o7.2.2.2.1.1) fun r9 =>
        bif (decide (([] : (List Int)).length + o7.2.2.2.1.2.2.1.length < 1073741824)) then
          bif (decide ((0:Int) ≤ o7.2.2.2.1.2.1) && decide (o7.2.2.2.1.2.1 < (r9.1.length : Int))) then
            Option.bind (bodegaref6_execute k o7.2.1 o7.2.2.2.1.1 (r9.1.getD (o7.2.2.2.1.2.1.toNat) ((0:Int), (0:Int), ()))) fun r10 =>
            bif (decide ((([] : (List Int)) ++ o7.2.2.2.1.2.2.1).length + r10.1.length < 1073741824)) then
              bif (decide ((IntKind.i64.wrap (o7.2.2.2.1.2.1 + (1:Int))) < (r9.1.length : Int))) then
                bif (decide (([] : (List Tpending)).length + o7.1.2.2.2.1.length < 1073741824)) then
                  bif (decide ((0:Int) ≤ (0:Int)) && decide ((0:Int) < ((([] : (List Tpending)) ++ o7.1.2.2.2.1).length : Int))) then
                    let v11 := ((([] : (List Tpending)) ++ o7.1.2.2.2.1).set 0 (o7.2.2.2.1.1, (IntKind.i64.wrap (o7.2.2.2.1.2.1 + (1:Int))), ((([] : (List Int)) ++ o7.2.2.2.1.2.2.1) ++ r10.1), o7.2.2.2.1.2.2.2))
                    some (((0:Int), ([] : (List Int)), ()), (-1:Int), false, true, (o7.1.1, o7.1.2.1, o7.1.2.2.1, v11, o7.1.2.2.2.2), r10.2.1, ())
                  else none
                else none
              else
                bif (decide ((0:Int) ≤ (1:Int)) && decide ((1:Int) ≤ (o7.1.2.2.2.1.length : Int)) && decide ((o7.1.2.2.2.1.length : Int) ≤ (o7.1.2.2.2.1.length : Int))) then
                  bif (decide (([] : (List Tpending)).length + ((List.take ((o7.1.2.2.2.1.length : Int).toNat) o7.1.2.2.2.1).drop 1).length < 1073741824)) then
                    let v12 := (o7.1.1, o7.1.2.1, o7.1.2.2.1, (([] : (List Tpending)) ++ ((List.take ((o7.1.2.2.2.1.length : Int).toNat) o7.1.2.2.2.1).drop 1)), o7.1.2.2.2.2)
                    some (((0:Int), ((([] : (List Int)) ++ o7.2.2.2.1.2.2.1) ++ r10.1), ()), o7.2.2.2.1.2.2.2.1, true, true, v12, r10.2.1, ())
                  else none
                else none
            else none
          else none
        else none
    else none
def bodegaref6_Pair_Step_sig : Sig := ⟨[⟨true, y8, .s, .s⟩, ⟨true, y10, (.p (.o .s) .s), (.p (.o .s) .s)⟩], [(y4, .s), ((.int .i64), .s), (.bool, .s), (.bool, .s)]⟩
noncomputable def bodegaref6_Pair_Step_te (k : Nat) : TE := ⟨bodegaref6_Pair_Step_sig, fun s => bodegaref6_Pair_Step k s.1 s.2.1⟩
noncomputable def bodegaref6_Pair_Step_C (k : Nat) : Ctx := cx [(91, bodegaref4_Valid_te k), (101, bodegaref1_Door_te k), (108, bodegaref4_Check_te k), (109, bodegaref6_at_te k), (110, bodegaref4_Pieces_te k), (111, bodegaref6_execute_te k)] [] [90]
noncomputable def bodegaref6_Pair_Step_code : Code := Tryz.f93.body.getD .skip
theorem bodegaref6_Pair_Step_tab (k : Nat) : TabOk Tryz.prog (bodegaref6_Pair_Step_C k) := ⟨tab_cons (bodegaref4_Valid_ok k) (tab_cons (bodegaref1_Door_ok k) (tab_cons (bodegaref4_Check_ok k) (tab_cons (bodegaref6_at_ok k) (tab_cons (bodegaref4_Pieces_ok k) (tab_cons (bodegaref6_execute_ok k) (tab_nil)))))), lay_nil⟩
noncomputable def bodegaref6_Pair_Step_ac (k : Nat) : AC := (.sq .rg (.sq (.sq .rg (.cd (.sq .rg .nx) .nx)) (.sq .rg (.sq .rg (.sq (.sm [(0, .bo y8 .s), (1, .bo y10 (.p (.o .s) .s)), (4, .bo y4 q2), (8, .bo y19 .s)] [(.normal, [(0, .bo y8 .s), (1, .bo y10 (.p (.o .s) .s)), (4, .bo y4 q2), (8, .bo y19 .s), (9, .va (.int .i64) .s)])] (fun s => bodegaref6_Pair_Step_J1 k s.1 s.2.1 s.2.2.1 s.2.2.2.1) (.bk (.sq .rg (.cd .rg (.sq .rg (.cd .rg .rg)))))) (.sq (.sq .rg (.cd (.sq .rg (.sq .rg .nx)) .nx)) (.sq .rg (.sq .rg (.sq .rg (.sq (.sq .rg (.cd (.sq .rg (.sq .rg (.sq .rg (.sq .rg .nx)))) .nx)) (.sq .rg (.sq .rg .nx))))))))))))
theorem bodegaref6_Pair_Step_fix (k : Nat) : acFix (bodegaref6_Pair_Step_C k) k 128 (bodegaref6_Pair_Step_ac k) bodegaref6_Pair_Step_code = bodegaref6_Pair_Step_ac k := by kernel_rfl
theorem bodegaref6_Pair_Step_eq (k : Nat) (s : bodegaref6_Pair_Step_sig.S) : fnEv (bodegaref6_Pair_Step_C k) k bodegaref6_Pair_Step_sig Tryz.f93 bodegaref6_Pair_Step_code (bodegaref6_Pair_Step_ac k) s = (bodegaref6_Pair_Step_te k).F s := by kernel_rfl
theorem bodegaref6_Pair_Step_ok (k : Nat) : CallOk Tryz.prog 93 (bodegaref6_Pair_Step_te k) :=
  fn_ok (C := bodegaref6_Pair_Step_C k) (code := bodegaref6_Pair_Step_code) (g := bodegaref6_Pair_Step_sig) (k := k) (Fn := (bodegaref6_Pair_Step_te k).F) mixed (tysOk _ _ _) (eqsOk _ _ _) (bodegaref6_Pair_Step_tab k) Tryz.func93 (by kernel_rfl) (by kernel_rfl) (of_decide_eq_true (by kernel_rfl)) (by kernel_rfl) (by kernel_rfl) (by kernel_rfl)
    (fun s q h => ⟨bodegaref6_Pair_Step_ac k, ok_of_fix _ _ (bodegaref6_Pair_Step_fix k), (bodegaref6_Pair_Step_eq k s).trans h⟩)

/-! #### (*bodega/bodegaref6.Pair).Step, two places of one struct -/
noncomputable def bodegaref6_Pair_Step_lt0 (k : Nat) (g_0 : TFabric) (g_1 : Int) (g_2 : Int) (g_3 : Int) : Option (TClocksOutcome × Int × Bool × Bool × TFabric × Unit) := Option.bind (bodegaref6_Pair_Step k ((g_0.2.2.2.1.getD (g_1.toNat) ([] : (List TPair))).getD (g_2.toNat) ((0:Int), (0:Int), (0:Int), ([] : (List Tpending)), ())) (g_0.2.1.getD (g_3.toNat) (([] : (List Int)), false, ()))) fun r => some (r.1, r.2.1, r.2.2.1, r.2.2.2.1, (g_0.1, (g_0.2.1.set (g_3.toNat) r.2.2.2.2.2.1), g_0.2.2.1, (g_0.2.2.2.1.set (g_1.toNat) ((g_0.2.2.2.1.getD (g_1.toNat) ([] : (List TPair))).set (g_2.toNat) r.2.2.2.2.1)), g_0.2.2.2.2), ())
noncomputable def bodegaref6_Pair_Step_lt0_te (k : Nat) : TE := ⟨twoSig (bodegaref6_Pair_Step_te k) (.pair (.int .i64) (.pair (.list (.pair (.list (.int .u64)) (.pair .bool .unit))) (.pair (.list (.pair .bool (.pair (.int .i64) (.pair .bool (.pair (.list (.pair (.int .i64) (.pair (.list (.int .u64)) .unit))) (.pair (.list .bool) (.pair (.int .i64) (.pair (.int .i64) .unit)))))))) (.pair (.list (.list (.pair (.int .i64) (.pair (.int .i64) (.pair (.int .i64) (.pair (.list (.pair (.pair (.int .i64) (.pair (.int .i64) (.pair (.int .i64) (.pair (.int .i64) (.pair (.int .u64) (.pair (.int .u64) (.pair (.list (.int .u64)) (.pair (.int .u64) (.pair (.int .i64) .unit))))))))) (.pair (.int .i64) (.pair (.list (.int .u64)) (.pair (.int .i64) .unit))))) .unit)))))) (.pair (.list (.pair (.int .i64) (.pair (.int .i64) (.pair (.int .i64) (.pair (.list (.pair (.pair (.int .i64) (.pair (.int .i64) (.pair (.int .i64) (.pair (.int .i64) (.pair (.int .u64) (.pair (.int .u64) (.pair (.list (.int .u64)) (.pair (.int .u64) (.pair (.int .i64) .unit))))))))) (.pair (.int .i64) (.pair (.list (.int .u64)) (.pair (.int .i64) .unit))))) .unit))))) .unit))))) (.p .s (.p (.o (.p (.o .s) .s)) (.p (.o (.p .s (.p .s (.p .s (.p (.o .s) (.p (.o .s) .s)))))) (.p (.o (.o .s)) (.p (.o .s) .s))))) 1 2, fun s => bodegaref6_Pair_Step_lt0 k s.1 s.2.1 s.2.2.1 s.2.2.2.1⟩
noncomputable def bodegaref6_Pair_Step_lt0_tel (k : Nat) : TEL := ⟨bodegaref6_Pair_Step_lt0_te k, [.root 0, .idx 0 0, .idx 0 1, .idx 1 0], layTwo [.snd] [.idx] [.snd, .fst, .idx, .idx] 1 2 true⟩
noncomputable def bodegaref6_Pair_Step_lt0_in (k : Nat) (s : (bodegaref6_Pair_Step_lt0_te k).sig.S) : Option (bodegaref6_Pair_Step_te k).sig.R := bodegaref6_Pair_Step k ((s.1.2.2.2.1.getD (s.2.1.toNat) ([] : (List TPair))).getD (s.2.2.1.toNat) ((0:Int), (0:Int), (0:Int), ([] : (List Tpending)), ())) (s.1.2.1.getD (s.2.2.2.1.toNat) (([] : (List Int)), false, ()))
noncomputable def bodegaref6_Pair_Step_lt0_out (k : Nat) (s : (bodegaref6_Pair_Step_lt0_te k).sig.S) (r : (bodegaref6_Pair_Step_te k).sig.R) : Option (bodegaref6_Pair_Step_lt0_te k).sig.R := some (r.1, r.2.1, r.2.2.1, r.2.2.2.1, (s.1.1, (s.1.2.1.set (s.2.2.2.1.toNat) r.2.2.2.2.2.1), s.1.2.2.1, (s.1.2.2.2.1.set (s.2.1.toNat) ((s.1.2.2.2.1.getD (s.2.1.toNat) ([] : (List TPair))).set (s.2.2.1.toNat) r.2.2.2.2.1)), s.1.2.2.2.2), ())
theorem bodegaref6_Pair_Step_lt0_eq (k : Nat) (s : (bodegaref6_Pair_Step_lt0_te k).sig.S) : (bodegaref6_Pair_Step_lt0_te k).F s = (teTwo (bodegaref6_Pair_Step_te k) (.pair (.int .i64) (.pair (.list (.pair (.list (.int .u64)) (.pair .bool .unit))) (.pair (.list (.pair .bool (.pair (.int .i64) (.pair .bool (.pair (.list (.pair (.int .i64) (.pair (.list (.int .u64)) .unit))) (.pair (.list .bool) (.pair (.int .i64) (.pair (.int .i64) .unit)))))))) (.pair (.list (.list (.pair (.int .i64) (.pair (.int .i64) (.pair (.int .i64) (.pair (.list (.pair (.pair (.int .i64) (.pair (.int .i64) (.pair (.int .i64) (.pair (.int .i64) (.pair (.int .u64) (.pair (.int .u64) (.pair (.list (.int .u64)) (.pair (.int .u64) (.pair (.int .i64) .unit))))))))) (.pair (.int .i64) (.pair (.list (.int .u64)) (.pair (.int .i64) .unit))))) .unit)))))) (.pair (.list (.pair (.int .i64) (.pair (.int .i64) (.pair (.int .i64) (.pair (.list (.pair (.pair (.int .i64) (.pair (.int .i64) (.pair (.int .i64) (.pair (.int .i64) (.pair (.int .u64) (.pair (.int .u64) (.pair (.list (.int .u64)) (.pair (.int .u64) (.pair (.int .i64) .unit))))))))) (.pair (.int .i64) (.pair (.list (.int .u64)) (.pair (.int .i64) .unit))))) .unit))))) .unit))))) (.p .s (.p (.o (.p (.o .s) .s)) (.p (.o (.p .s (.p .s (.p .s (.p (.o .s) (.p (.o .s) .s)))))) (.p (.o (.o .s)) (.p (.o .s) .s))))) [.snd] [.idx] [.snd, .fst, .idx, .idx] 1 2 true).F s := by
  have key : ∀ o : Option (bodegaref6_Pair_Step_te k).sig.R, (Option.bind o fun r => (bodegaref6_Pair_Step_lt0_out k s r)) = (teTwo ⟨(bodegaref6_Pair_Step_te k).sig, fun _ => o⟩ (.pair (.int .i64) (.pair (.list (.pair (.list (.int .u64)) (.pair .bool .unit))) (.pair (.list (.pair .bool (.pair (.int .i64) (.pair .bool (.pair (.list (.pair (.int .i64) (.pair (.list (.int .u64)) .unit))) (.pair (.list .bool) (.pair (.int .i64) (.pair (.int .i64) .unit)))))))) (.pair (.list (.list (.pair (.int .i64) (.pair (.int .i64) (.pair (.int .i64) (.pair (.list (.pair (.pair (.int .i64) (.pair (.int .i64) (.pair (.int .i64) (.pair (.int .i64) (.pair (.int .u64) (.pair (.int .u64) (.pair (.list (.int .u64)) (.pair (.int .u64) (.pair (.int .i64) .unit))))))))) (.pair (.int .i64) (.pair (.list (.int .u64)) (.pair (.int .i64) .unit))))) .unit)))))) (.pair (.list (.pair (.int .i64) (.pair (.int .i64) (.pair (.int .i64) (.pair (.list (.pair (.pair (.int .i64) (.pair (.int .i64) (.pair (.int .i64) (.pair (.int .i64) (.pair (.int .u64) (.pair (.int .u64) (.pair (.list (.int .u64)) (.pair (.int .u64) (.pair (.int .i64) .unit))))))))) (.pair (.int .i64) (.pair (.list (.int .u64)) (.pair (.int .i64) .unit))))) .unit))))) .unit))))) (.p .s (.p (.o (.p (.o .s) .s)) (.p (.o (.p .s (.p .s (.p .s (.p (.o .s) (.p (.o .s) .s)))))) (.p (.o (.o .s)) (.p (.o .s) .s))))) [.snd] [.idx] [.snd, .fst, .idx, .idx] 1 2 true).F s := by
    intro o
    cases o <;> kernel_rfl
  have h1 : (bodegaref6_Pair_Step_lt0_te k).F s = (Option.bind (bodegaref6_Pair_Step_lt0_in k s) fun r => (bodegaref6_Pair_Step_lt0_out k s r)) := by kernel_rfl
  have h2 : (teTwo ⟨(bodegaref6_Pair_Step_te k).sig, fun _ => bodegaref6_Pair_Step_lt0_in k s⟩ (.pair (.int .i64) (.pair (.list (.pair (.list (.int .u64)) (.pair .bool .unit))) (.pair (.list (.pair .bool (.pair (.int .i64) (.pair .bool (.pair (.list (.pair (.int .i64) (.pair (.list (.int .u64)) .unit))) (.pair (.list .bool) (.pair (.int .i64) (.pair (.int .i64) .unit)))))))) (.pair (.list (.list (.pair (.int .i64) (.pair (.int .i64) (.pair (.int .i64) (.pair (.list (.pair (.pair (.int .i64) (.pair (.int .i64) (.pair (.int .i64) (.pair (.int .i64) (.pair (.int .u64) (.pair (.int .u64) (.pair (.list (.int .u64)) (.pair (.int .u64) (.pair (.int .i64) .unit))))))))) (.pair (.int .i64) (.pair (.list (.int .u64)) (.pair (.int .i64) .unit))))) .unit)))))) (.pair (.list (.pair (.int .i64) (.pair (.int .i64) (.pair (.int .i64) (.pair (.list (.pair (.pair (.int .i64) (.pair (.int .i64) (.pair (.int .i64) (.pair (.int .i64) (.pair (.int .u64) (.pair (.int .u64) (.pair (.list (.int .u64)) (.pair (.int .u64) (.pair (.int .i64) .unit))))))))) (.pair (.int .i64) (.pair (.list (.int .u64)) (.pair (.int .i64) .unit))))) .unit))))) .unit))))) (.p .s (.p (.o (.p (.o .s) .s)) (.p (.o (.p .s (.p .s (.p .s (.p (.o .s) (.p (.o .s) .s)))))) (.p (.o (.o .s)) (.p (.o .s) .s))))) [.snd] [.idx] [.snd, .fst, .idx, .idx] 1 2 true).F s = (teTwo (bodegaref6_Pair_Step_te k) (.pair (.int .i64) (.pair (.list (.pair (.list (.int .u64)) (.pair .bool .unit))) (.pair (.list (.pair .bool (.pair (.int .i64) (.pair .bool (.pair (.list (.pair (.int .i64) (.pair (.list (.int .u64)) .unit))) (.pair (.list .bool) (.pair (.int .i64) (.pair (.int .i64) .unit)))))))) (.pair (.list (.list (.pair (.int .i64) (.pair (.int .i64) (.pair (.int .i64) (.pair (.list (.pair (.pair (.int .i64) (.pair (.int .i64) (.pair (.int .i64) (.pair (.int .i64) (.pair (.int .u64) (.pair (.int .u64) (.pair (.list (.int .u64)) (.pair (.int .u64) (.pair (.int .i64) .unit))))))))) (.pair (.int .i64) (.pair (.list (.int .u64)) (.pair (.int .i64) .unit))))) .unit)))))) (.pair (.list (.pair (.int .i64) (.pair (.int .i64) (.pair (.int .i64) (.pair (.list (.pair (.pair (.int .i64) (.pair (.int .i64) (.pair (.int .i64) (.pair (.int .i64) (.pair (.int .u64) (.pair (.int .u64) (.pair (.list (.int .u64)) (.pair (.int .u64) (.pair (.int .i64) .unit))))))))) (.pair (.int .i64) (.pair (.list (.int .u64)) (.pair (.int .i64) .unit))))) .unit))))) .unit))))) (.p .s (.p (.o (.p (.o .s) .s)) (.p (.o (.p .s (.p .s (.p .s (.p (.o .s) (.p (.o .s) .s)))))) (.p (.o (.o .s)) (.p (.o .s) .s))))) [.snd] [.idx] [.snd, .fst, .idx, .idx] 1 2 true).F s := by kernel_rfl
  exact h1.trans ((key _).trans h2)
theorem bodegaref6_Pair_Step_lt0_ok (k : Nat) : CallOkL Tryz.prog 93 (bodegaref6_Pair_Step_lt0_tel k) := (two_ok (bodegaref6_Pair_Step_ok k) (k1 := ⟨true, (.pair (.int .i64) (.pair (.int .i64) (.pair (.int .i64) (.pair (.list (.pair (.pair (.int .i64) (.pair (.int .i64) (.pair (.int .i64) (.pair (.int .i64) (.pair (.int .u64) (.pair (.int .u64) (.pair (.list (.int .u64)) (.pair (.int .u64) (.pair (.int .i64) .unit))))))))) (.pair (.int .i64) (.pair (.list (.int .u64)) (.pair (.int .i64) .unit))))) .unit)))), .s, .s⟩) (k2 := ⟨true, (.pair (.list (.int .u64)) (.pair .bool .unit)), (.p (.o .s) .s), (.p (.o .s) .s)⟩) rfl rfl rfl).congr (bodegaref6_Pair_Step_lt0_eq k)

/-! #### (*bodega/bodegaref6.Fabric).Step -/
noncomputable def bodegaref6_Fabric_Step (k : Nat) (f_0 : TFabric) (x_1 : TChoice) : Option (Bool × TFabric × Unit) :=
  bif (decide ((0:Int) ≤ x_1.1)) then
    none
  else
    bif (bif (bif (bif (bif (!(decide (x_1.1 = (-1:Int)))) then true else (decide (x_1.2.1 < (0:Int)))) then true else (decide ((f_0.2.2.2.1.length : Int) ≤ x_1.2.1))) then true else (decide (x_1.2.2.1 < (0:Int)))) then true else (decide ((f_0.2.1.length : Int) ≤ x_1.2.2.1))) then
      some (false, f_0, ())
    else
      bif (decide ((0:Int) ≤ x_1.2.1) && decide (x_1.2.1 < (f_0.2.2.2.1.length : Int))) then
        bif (decide ((0:Int) ≤ x_1.2.2.1) && decide (x_1.2.2.1 < ((f_0.2.2.2.1.getD (x_1.2.1.toNat) ([] : (List TPair))).length : Int))) then
          bif (decide ((0:Int) ≤ x_1.2.2.1) && decide (x_1.2.2.1 < (f_0.2.1.length : Int))) then
            Option.bind (bodegaref6_Pair_Step_lt0 k f_0 x_1.2.1 x_1.2.2.1 x_1.2.2.1) fun r1 =>
            bif r1.2.2.1 then
              bif (decide ((0:Int) ≤ x_1.2.1) && decide (x_1.2.1 < (r1.2.2.2.2.1.2.2.1.length : Int))) then
                bif (decide ((0:Int) ≤ x_1.2.1) && decide (x_1.2.1 < (r1.2.2.2.2.1.2.2.1.length : Int))) then
                  bif (decide ((0:Int) ≤ r1.2.1) && decide (r1.2.1 < ((r1.2.2.2.2.1.2.2.1.getD (x_1.2.1.toNat) (false, (0:Int), false, ([] : (List TClocksOutcome)), ([] : (List Bool)), (0:Int), (0:Int), ())).2.2.2.1.length : Int))) then
                    let v2 := (r1.2.2.2.2.1.1, r1.2.2.2.2.1.2.1, (r1.2.2.2.2.1.2.2.1.set (x_1.2.1.toNat) ((r1.2.2.2.2.1.2.2.1.getD (x_1.2.1.toNat) (false, (0:Int), false, ([] : (List TClocksOutcome)), ([] : (List Bool)), (0:Int), (0:Int), ())).1, (r1.2.2.2.2.1.2.2.1.getD (x_1.2.1.toNat) (false, (0:Int), false, ([] : (List TClocksOutcome)), ([] : (List Bool)), (0:Int), (0:Int), ())).2.1, (r1.2.2.2.2.1.2.2.1.getD (x_1.2.1.toNat) (false, (0:Int), false, ([] : (List TClocksOutcome)), ([] : (List Bool)), (0:Int), (0:Int), ())).2.2.1, ((r1.2.2.2.2.1.2.2.1.getD (x_1.2.1.toNat) (false, (0:Int), false, ([] : (List TClocksOutcome)), ([] : (List Bool)), (0:Int), (0:Int), ())).2.2.2.1.set (r1.2.1.toNat) r1.1), (r1.2.2.2.2.1.2.2.1.getD (x_1.2.1.toNat) (false, (0:Int), false, ([] : (List TClocksOutcome)), ([] : (List Bool)), (0:Int), (0:Int), ())).2.2.2.2)), r1.2.2.2.2.1.2.2.2)
                    bif (decide ((0:Int) ≤ r1.2.1) && decide (r1.2.1 < ((v2.2.2.1.getD (x_1.2.1.toNat) (false, (0:Int), false, ([] : (List TClocksOutcome)), ([] : (List Bool)), (0:Int), (0:Int), ())).2.2.2.2.1.length : Int))) then
                      let v3 := (v2.1, v2.2.1, (v2.2.2.1.set (x_1.2.1.toNat) ((v2.2.2.1.getD (x_1.2.1.toNat) (false, (0:Int), false, ([] : (List TClocksOutcome)), ([] : (List Bool)), (0:Int), (0:Int), ())).1, (v2.2.2.1.getD (x_1.2.1.toNat) (false, (0:Int), false, ([] : (List TClocksOutcome)), ([] : (List Bool)), (0:Int), (0:Int), ())).2.1, (v2.2.2.1.getD (x_1.2.1.toNat) (false, (0:Int), false, ([] : (List TClocksOutcome)), ([] : (List Bool)), (0:Int), (0:Int), ())).2.2.1, (v2.2.2.1.getD (x_1.2.1.toNat) (false, (0:Int), false, ([] : (List TClocksOutcome)), ([] : (List Bool)), (0:Int), (0:Int), ())).2.2.2.1, ((v2.2.2.1.getD (x_1.2.1.toNat) (false, (0:Int), false, ([] : (List TClocksOutcome)), ([] : (List Bool)), (0:Int), (0:Int), ())).2.2.2.2.1.set (r1.2.1.toNat) true), (v2.2.2.1.getD (x_1.2.1.toNat) (false, (0:Int), false, ([] : (List TClocksOutcome)), ([] : (List Bool)), (0:Int), (0:Int), ())).2.2.2.2.2)), v2.2.2.2)
                      some (r1.2.2.2.1, v3, ())
                    else none
                  else none
                else none
              else none
            else
              some (r1.2.2.2.1, r1.2.2.2.2.1, ())
          else none
        else none
      else none
def bodegaref6_Fabric_Step_sig : Sig := ⟨[⟨true, y1, q1, q1⟩, ⟨false, (.pair (.int .i64) y7), .s, .s⟩], [(.bool, .s)]⟩
noncomputable def bodegaref6_Fabric_Step_te (k : Nat) : TE := ⟨bodegaref6_Fabric_Step_sig, fun s => bodegaref6_Fabric_Step k s.1 s.2.1⟩
noncomputable def bodegaref6_Fabric_Step_C (k : Nat) : Ctx := cx [] [(93, bodegaref6_Pair_Step_lt0_tel k)] []
noncomputable def bodegaref6_Fabric_Step_code : Code := Tryz.f77.body.getD .skip
theorem bodegaref6_Fabric_Step_tab (k : Nat) : TabOk Tryz.prog (bodegaref6_Fabric_Step_C k) := ⟨tab_nil, lay_cons (bodegaref6_Pair_Step_lt0_ok k) (lay_nil)⟩
noncomputable def bodegaref6_Fabric_Step_ac (_k : Nat) : AC := (.sq .rg (.sq (.sq .rg (.cd (.sq (.sq .nx (.cd (.sq .rg .nx) .nx)) (.sq .rg (.sq .rg (.sq (.sq .rg (.cd .rg .nx)) (.sq .rg .nx))))) .nx)) (.sq (.sq .rg (.cd (.sq .rg .nx) .nx)) (.sq .rg (.sq (.sq .rg (.cd .rg .nx)) (.sq .rg .nx))))))
theorem bodegaref6_Fabric_Step_fix (k : Nat) : acFix (bodegaref6_Fabric_Step_C k) k 131 (bodegaref6_Fabric_Step_ac k) bodegaref6_Fabric_Step_code = bodegaref6_Fabric_Step_ac k := by kernel_rfl
theorem bodegaref6_Fabric_Step_eq (k : Nat) (s : bodegaref6_Fabric_Step_sig.S) : fnEv (bodegaref6_Fabric_Step_C k) k bodegaref6_Fabric_Step_sig Tryz.f77 bodegaref6_Fabric_Step_code (bodegaref6_Fabric_Step_ac k) s = (bodegaref6_Fabric_Step_te k).F s := by kernel_rfl
theorem bodegaref6_Fabric_Step_ok (k : Nat) : CallOk Tryz.prog 77 (bodegaref6_Fabric_Step_te k) :=
  fn_ok (C := bodegaref6_Fabric_Step_C k) (code := bodegaref6_Fabric_Step_code) (g := bodegaref6_Fabric_Step_sig) (k := k) (Fn := (bodegaref6_Fabric_Step_te k).F) mixed (tysOk _ _ _) (eqsOk _ _ _) (bodegaref6_Fabric_Step_tab k) Tryz.func77 (by kernel_rfl) (by kernel_rfl) (of_decide_eq_true (by kernel_rfl)) (by kernel_rfl) (by kernel_rfl) (by kernel_rfl)
    (fun s q h => ⟨bodegaref6_Fabric_Step_ac k, ok_of_fix _ _ (bodegaref6_Fabric_Step_fix k), (bodegaref6_Fabric_Step_eq k s).trans h⟩)

/-! #### (*bodega/bodegaref6.Fabric).Take -/
noncomputable def bodegaref6_Fabric_Take (k : Nat) (f_0 : TFabric) (c_1 : Int) : Option ((List TClocksOutcome) × Bool × TFabric × Unit) :=
  Option.bind (bodegaref6_Fabric_alive k f_0 c_1) fun r1 =>
  bif ((decide ((0:Int) ≤ c_1) && decide (c_1 < (r1.2.1.2.2.1.length : Int))) || (!(!(!r1.1)))) then
    Option.bind (bif (!(bif (!r1.1) then true else (!(r1.2.1.2.2.1.getD (c_1.toNat) (false, (0:Int), false, ([] : (List TClocksOutcome)), ([] : (List Bool)), (0:Int), (0:Int), ())).2.2.1))) then bodegaref6_Fabric_Waiting k r1.2.1 c_1 else some ((0:Int), ((0:Int), ([] : (List TNode)), ([] : (List Tclient)), ([] : (List (List TPair))), ([] : (List TPair)), ()), ())) fun r2 =>
    bif (bif (bif (!r1.1) then true else (!(r1.2.1.2.2.1.getD (c_1.toNat) (false, (0:Int), false, ([] : (List TClocksOutcome)), ([] : (List Bool)), (0:Int), (0:Int), ())).2.2.1)) then true else (decide ((0:Int) < r2.1))) then
      some (([] : (List TClocksOutcome)), false, (bif (!(bif (!r1.1) then true else (!(r1.2.1.2.2.1.getD (c_1.toNat) (false, (0:Int), false, ([] : (List TClocksOutcome)), ([] : (List Bool)), (0:Int), (0:Int), ())).2.2.1))) then r2.2.1 else r1.2.1), ())
    else
      bif (decide ((0:Int) ≤ c_1) && decide (c_1 < ((bif (!(bif (!r1.1) then true else (!(r1.2.1.2.2.1.getD (c_1.toNat) (false, (0:Int), false, ([] : (List TClocksOutcome)), ([] : (List Bool)), (0:Int), (0:Int), ())).2.2.1))) then r2.2.1 else r1.2.1).2.2.1.length : Int))) then
        bif (decide ((0:Int) ≤ c_1) && decide (c_1 < ((bif (!(bif (!r1.1) then true else (!(r1.2.1.2.2.1.getD (c_1.toNat) (false, (0:Int), false, ([] : (List TClocksOutcome)), ([] : (List Bool)), (0:Int), (0:Int), ())).2.2.1))) then r2.2.1 else r1.2.1).2.2.1.length : Int))) then
          let v3 := ((bif (!(bif (!r1.1) then true else (!(r1.2.1.2.2.1.getD (c_1.toNat) (false, (0:Int), false, ([] : (List TClocksOutcome)), ([] : (List Bool)), (0:Int), (0:Int), ())).2.2.1))) then r2.2.1 else r1.2.1).1, (bif (!(bif (!r1.1) then true else (!(r1.2.1.2.2.1.getD (c_1.toNat) (false, (0:Int), false, ([] : (List TClocksOutcome)), ([] : (List Bool)), (0:Int), (0:Int), ())).2.2.1))) then r2.2.1 else r1.2.1).2.1, ((bif (!(bif (!r1.1) then true else (!(r1.2.1.2.2.1.getD (c_1.toNat) (false, (0:Int), false, ([] : (List TClocksOutcome)), ([] : (List Bool)), (0:Int), (0:Int), ())).2.2.1))) then r2.2.1 else r1.2.1).2.2.1.set (c_1.toNat) (((bif (!(bif (!r1.1) then true else (!(r1.2.1.2.2.1.getD (c_1.toNat) (false, (0:Int), false, ([] : (List TClocksOutcome)), ([] : (List Bool)), (0:Int), (0:Int), ())).2.2.1))) then r2.2.1 else r1.2.1).2.2.1.getD (c_1.toNat) (false, (0:Int), false, ([] : (List TClocksOutcome)), ([] : (List Bool)), (0:Int), (0:Int), ())).1, ((bif (!(bif (!r1.1) then true else (!(r1.2.1.2.2.1.getD (c_1.toNat) (false, (0:Int), false, ([] : (List TClocksOutcome)), ([] : (List Bool)), (0:Int), (0:Int), ())).2.2.1))) then r2.2.1 else r1.2.1).2.2.1.getD (c_1.toNat) (false, (0:Int), false, ([] : (List TClocksOutcome)), ([] : (List Bool)), (0:Int), (0:Int), ())).2.1, false, ((bif (!(bif (!r1.1) then true else (!(r1.2.1.2.2.1.getD (c_1.toNat) (false, (0:Int), false, ([] : (List TClocksOutcome)), ([] : (List Bool)), (0:Int), (0:Int), ())).2.2.1))) then r2.2.1 else r1.2.1).2.2.1.getD (c_1.toNat) (false, (0:Int), false, ([] : (List TClocksOutcome)), ([] : (List Bool)), (0:Int), (0:Int), ())).2.2.2)), (bif (!(bif (!r1.1) then true else (!(r1.2.1.2.2.1.getD (c_1.toNat) (false, (0:Int), false, ([] : (List TClocksOutcome)), ([] : (List Bool)), (0:Int), (0:Int), ())).2.2.1))) then r2.2.1 else r1.2.1).2.2.2)
          bif (decide ((0:Int) ≤ c_1) && decide (c_1 < (v3.2.2.1.length : Int))) then
            let v4 := (v3.1, v3.2.1, (v3.2.2.1.set (c_1.toNat) ((v3.2.2.1.getD (c_1.toNat) (false, (0:Int), false, ([] : (List TClocksOutcome)), ([] : (List Bool)), (0:Int), (0:Int), ())).1, (v3.2.2.1.getD (c_1.toNat) (false, (0:Int), false, ([] : (List TClocksOutcome)), ([] : (List Bool)), (0:Int), (0:Int), ())).2.1, (v3.2.2.1.getD (c_1.toNat) (false, (0:Int), false, ([] : (List TClocksOutcome)), ([] : (List Bool)), (0:Int), (0:Int), ())).2.2.1, ([] : (List TClocksOutcome)), (v3.2.2.1.getD (c_1.toNat) (false, (0:Int), false, ([] : (List TClocksOutcome)), ([] : (List Bool)), (0:Int), (0:Int), ())).2.2.2.2)), v3.2.2.2)
            bif (decide ((0:Int) ≤ c_1) && decide (c_1 < (v4.2.2.1.length : Int))) then
              let v5 := (v4.1, v4.2.1, (v4.2.2.1.set (c_1.toNat) ((v4.2.2.1.getD (c_1.toNat) (false, (0:Int), false, ([] : (List TClocksOutcome)), ([] : (List Bool)), (0:Int), (0:Int), ())).1, (v4.2.2.1.getD (c_1.toNat) (false, (0:Int), false, ([] : (List TClocksOutcome)), ([] : (List Bool)), (0:Int), (0:Int), ())).2.1, (v4.2.2.1.getD (c_1.toNat) (false, (0:Int), false, ([] : (List TClocksOutcome)), ([] : (List Bool)), (0:Int), (0:Int), ())).2.2.1, (v4.2.2.1.getD (c_1.toNat) (false, (0:Int), false, ([] : (List TClocksOutcome)), ([] : (List Bool)), (0:Int), (0:Int), ())).2.2.2.1, ([] : (List Bool)), (v4.2.2.1.getD (c_1.toNat) (false, (0:Int), false, ([] : (List TClocksOutcome)), ([] : (List Bool)), (0:Int), (0:Int), ())).2.2.2.2.2)), v4.2.2.2)
              some (((bif (!(bif (!r1.1) then true else (!(r1.2.1.2.2.1.getD (c_1.toNat) (false, (0:Int), false, ([] : (List TClocksOutcome)), ([] : (List Bool)), (0:Int), (0:Int), ())).2.2.1))) then r2.2.1 else r1.2.1).2.2.1.getD (c_1.toNat) (false, (0:Int), false, ([] : (List TClocksOutcome)), ([] : (List Bool)), (0:Int), (0:Int), ())).2.2.2.1, true, v5, ())
            else none
          else none
        else none
      else none
  else none
def bodegaref6_Fabric_Take_sig : Sig := ⟨[⟨true, y1, q1, q3⟩, ⟨false, (.int .i64), .s, .s⟩], [((.list y4), .s), (.bool, .s)]⟩
noncomputable def bodegaref6_Fabric_Take_te (k : Nat) : TE := ⟨bodegaref6_Fabric_Take_sig, fun s => bodegaref6_Fabric_Take k s.1 s.2.1⟩
noncomputable def bodegaref6_Fabric_Take_C (k : Nat) : Ctx := cx [(76, bodegaref6_Fabric_Waiting_te k), (90, bodegaref6_Fabric_alive_te k)] [] []
noncomputable def bodegaref6_Fabric_Take_code : Code := Tryz.f79.body.getD .skip
theorem bodegaref6_Fabric_Take_tab (k : Nat) : TabOk Tryz.prog (bodegaref6_Fabric_Take_C k) := ⟨tab_cons (bodegaref6_Fabric_Waiting_ok k) (tab_cons (bodegaref6_Fabric_alive_ok k) (tab_nil)), lay_nil⟩
noncomputable def bodegaref6_Fabric_Take_ac (_k : Nat) : AC := (.sq .rg (.sq (.sq .rg (.cd (.sq .rg .nx) .nx)) (.sq .rg (.sq .rg (.sq .rg .nx)))))
theorem bodegaref6_Fabric_Take_fix (k : Nat) : acFix (bodegaref6_Fabric_Take_C k) k 58 (bodegaref6_Fabric_Take_ac k) bodegaref6_Fabric_Take_code = bodegaref6_Fabric_Take_ac k := by kernel_rfl
theorem bodegaref6_Fabric_Take_eq (k : Nat) (s : bodegaref6_Fabric_Take_sig.S) : fnEv (bodegaref6_Fabric_Take_C k) k bodegaref6_Fabric_Take_sig Tryz.f79 bodegaref6_Fabric_Take_code (bodegaref6_Fabric_Take_ac k) s = (bodegaref6_Fabric_Take_te k).F s := by kernel_rfl
theorem bodegaref6_Fabric_Take_ok (k : Nat) : CallOk Tryz.prog 79 (bodegaref6_Fabric_Take_te k) :=
  fn_ok (C := bodegaref6_Fabric_Take_C k) (code := bodegaref6_Fabric_Take_code) (g := bodegaref6_Fabric_Take_sig) (k := k) (Fn := (bodegaref6_Fabric_Take_te k).F) mixed (tysOk _ _ _) (eqsOk _ _ _) (bodegaref6_Fabric_Take_tab k) Tryz.func79 (by kernel_rfl) (by kernel_rfl) (of_decide_eq_true (by kernel_rfl)) (by kernel_rfl) (by kernel_rfl) (by kernel_rfl)
    (fun s q h => ⟨bodegaref6_Fabric_Take_ac k, ok_of_fix _ _ (bodegaref6_Fabric_Take_fix k), (bodegaref6_Fabric_Take_eq k s).trans h⟩)

/-! #### bodega/bodegahand.Play -/
noncomputable def bodegahand_Play_L1 (k : Nat) (f_0 : TFabric) (client_1 : Int) : Option ((TFabric × Int × Unit) ⊕ ((TFabric × Int × Unit))) :=
  Option.bind (bodegaref6_Fabric_Waiting k f_0 client_1) fun r2 =>
  bif (decide ((0:Int) < r2.1)) then
    Option.bind (bodegaref6_Fabric_Choices k r2.2.1) fun r3 =>
    bif (decide ((0:Int) ≤ (0:Int)) && decide ((0:Int) < (r3.1.length : Int))) then
      Option.bind (bodegaref6_Fabric_Step k r3.2.1 (r3.1.getD 0 ((0:Int), (0:Int), (0:Int), ()))) fun r4 =>
      some (.inl (r4.2.1, client_1, ()))
    else none
  else
    some (.inr (r2.2.1, client_1, ()))
noncomputable def bodegahand_Play_L1_it (k : Nat) (f_0 : TFabric) (client_1 : Int) : Option ((TFabric × Int × Unit)) :=
  iterO (fun s : TFabric × Int × Unit => bodegahand_Play_L1 k s.1 s.2.1) k (f_0, client_1, ())
noncomputable def bodegahand_Play (k : Nat) (f_0 : TFabric) (client_1 : Int) (l_2 : (List TVerb)) : Option ((List TClocksOutcome) × TFabric × Unit) :=
  Option.bind (bodegaref6_Fabric_Post k f_0 client_1 l_2) fun r1 =>
  bif (!(decide (r1.1 = (0:Int)))) then
    some (([] : (List TClocksOutcome)), r1.2.1, ())
  else
    Option.bind (bodegahand_Play_L1_it k r1.2.1 client_1) fun o5 =>
    Option.bind (bodegaref6_Fabric_Take k o5.1 o5.2.1) fun r6 =>
    some (r6.1, r6.2.2.1, ())
def bodegahand_Play_sig : Sig := ⟨[⟨true, y1, q1, q3⟩, ⟨false, (.int .i64), .s, .s⟩, ⟨false, (.list y2), .s, .s⟩], [((.list y4), .s)]⟩
noncomputable def bodegahand_Play_te (k : Nat) : TE := ⟨bodegahand_Play_sig, fun s => bodegahand_Play k s.1 s.2.1 s.2.2.1⟩
noncomputable def bodegahand_Play_C (k : Nat) : Ctx := cx [(75, bodegaref6_Fabric_Post_te k), (76, bodegaref6_Fabric_Waiting_te k), (77, bodegaref6_Fabric_Step_te k), (78, bodegaref6_Fabric_Choices_te k), (79, bodegaref6_Fabric_Take_te k)] [] []
noncomputable def bodegahand_Play_code : Code := Tryz.f42.body.getD .skip
theorem bodegahand_Play_tab (k : Nat) : TabOk Tryz.prog (bodegahand_Play_C k) := ⟨tab_cons (bodegaref6_Fabric_Post_ok k) (tab_cons (bodegaref6_Fabric_Waiting_ok k) (tab_cons (bodegaref6_Fabric_Step_ok k) (tab_cons (bodegaref6_Fabric_Choices_ok k) (tab_cons (bodegaref6_Fabric_Take_ok k) (tab_nil))))), lay_nil⟩
noncomputable def bodegahand_Play_ac (k : Nat) : AC := (.sq .rg (.sq (.sq .rg (.cd (.sq .rg .nx) .nx)) (.sq (.bk (.lp [(0, .bo y1 q1), (1, .va (.int .i64) .s)] [(.exit 0, [(0, .bo y1 q1), (1, .va (.int .i64) .s)])] (fun s => bodegahand_Play_L1 k s.1 s.2.1) (.sq (.sq .rg (.cd .nx .nx)) (.bk .rg)))) (.sq .rg (.sq .rg .nx)))))
theorem bodegahand_Play_fix (k : Nat) : acFix (bodegahand_Play_C k) k 31 (bodegahand_Play_ac k) bodegahand_Play_code = bodegahand_Play_ac k := by kernel_rfl
theorem bodegahand_Play_eq (k : Nat) (s : bodegahand_Play_sig.S) : fnEv (bodegahand_Play_C k) k bodegahand_Play_sig Tryz.f42 bodegahand_Play_code (bodegahand_Play_ac k) s = (bodegahand_Play_te k).F s := by kernel_rfl
theorem bodegahand_Play_ok (k : Nat) : CallOk Tryz.prog 42 (bodegahand_Play_te k) :=
  fn_ok (C := bodegahand_Play_C k) (code := bodegahand_Play_code) (g := bodegahand_Play_sig) (k := k) (Fn := (bodegahand_Play_te k).F) mixed (tysOk _ _ _) (eqsOk _ _ _) (bodegahand_Play_tab k) Tryz.func42 (by kernel_rfl) (by kernel_rfl) (of_decide_eq_true (by kernel_rfl)) (by kernel_rfl) (by kernel_rfl) (by kernel_rfl)
    (fun s q h => ⟨bodegahand_Play_ac k, ok_of_fix _ _ (bodegahand_Play_fix k), (bodegahand_Play_eq k s).trans h⟩)

/-! #### bodega/bodegahand.Altered -/
noncomputable def bodegahand_Altered_J1 (k : Nat) (batch_1 : Int) (l_2 : (List TAlter)) (out_7 : (List TClocksOutcome)) (i_8 : Int) (a_9 : TAlter) (t_10 : Int) (x_11 : TClocksOutcome) (t_53 : Int) : Option ((Int × (List TAlter) × (List TClocksOutcome) × Int × Int × TClocksOutcome × Unit) ⊕ (Int × (List TAlter) × (List TClocksOutcome) × Int × Unit)) :=
  bif (decide (t_53 = (0:Int))) then
    some (.inl (batch_1, l_2, out_7, i_8, t_10, ((4:Int), ([] : (List Int)), ()), ()))
  else
    bif (decide (t_53 = (1:Int))) then
      some (.inl (batch_1, l_2, out_7, i_8, t_10, ((5:Int), ([] : (List Int)), ()), ()))
    else
      bif (decide (t_53 = (2:Int))) then
        bif (decide (x_11.2.1.length + [a_9.2.2.2.1].length < 1073741824)) then
          some (.inl (batch_1, l_2, out_7, i_8, t_10, (x_11.1, (x_11.2.1 ++ [a_9.2.2.2.1]), x_11.2.2), ()))
        else none
      else
        bif (decide (t_53 = (3:Int))) then
          bif (decide ((0:Int) ≤ (0:Int)) && decide ((0:Int) ≤ (IntKind.i64.wrap ((out_7.length : Int) - (1:Int)))) && decide ((IntKind.i64.wrap ((out_7.length : Int) - (1:Int))) ≤ (out_7.length : Int))) then
            some (.inr (batch_1, l_2, ((List.take ((IntKind.i64.wrap ((out_7.length : Int) - (1:Int))).toNat) out_7).drop 0), i_8, ()))
          else none
        else
          bif (decide (t_53 = (4:Int))) then
            some (.inl (batch_1, l_2, out_7, i_8, t_10, ((12:Int), x_11.2), ()))
          else
            bif (decide ((0:Int) < (x_11.2.1.length : Int))) then
              Option.bind (bodegahand_Pick k (IntKind.i64.wrap (Int.tmod a_9.2.2.2.1 (4096:Int))) (x_11.2.1.length : Int)) fun r4 =>
              bif (decide ((0:Int) ≤ r4.1) && decide (r4.1 < (x_11.2.1.length : Int))) then
                some (.inl (batch_1, l_2, out_7, i_8, t_10, (x_11.1, (x_11.2.1.set (r4.1.toNat) a_9.2.2.2.1), x_11.2.2), ()))
              else none
            else
              some (.inl (batch_1, l_2, out_7, i_8, t_10, x_11, ()))
noncomputable def bodegahand_Altered_L1 (k : Nat) (batch_1 : Int) (l_2 : (List TAlter)) (out_7 : (List TClocksOutcome)) (i_8 : Int) : Option ((Int × (List TAlter) × (List TClocksOutcome) × Int × Unit) ⊕ (((List TClocksOutcome) × Unit))) :=
  bif (decide (i_8 < (l_2.length : Int))) then
    bif (decide ((0:Int) ≤ i_8) && decide (i_8 < (l_2.length : Int))) then
      Option.bind (bodegahand_Pick k (l_2.getD (i_8.toNat) ((0:Int), (0:Int), (0:Int), (0:Int), ())).1 (20:Int)) fun r1 =>
      bif (bif (!(decide (r1.1 = batch_1))) then true else (decide ((out_7.length : Int) = (0:Int)))) then
        some (.inl (batch_1, l_2, out_7, (IntKind.i64.wrap (i_8 + (1:Int))), ()))
      else
        Option.bind (bodegahand_Pick k (l_2.getD (i_8.toNat) ((0:Int), (0:Int), (0:Int), (0:Int), ())).2.1 (out_7.length : Int)) fun r2 =>
        bif (decide ((0:Int) ≤ r2.1) && decide (r2.1 < (out_7.length : Int))) then
          bif (decide ((0:Int) ≤ r2.1) && decide (r2.1 < (out_7.length : Int))) then
            bif (decide (([] : (List Int)).length + (out_7.getD (r2.1.toNat) ((0:Int), ([] : (List Int)), ())).2.1.length < 1073741824)) then
              Option.bind (bodegahand_Pick k (l_2.getD (i_8.toNat) ((0:Int), (0:Int), (0:Int), (0:Int), ())).2.2.1 (8:Int)) fun r3 =>
              Option.bind (bodegahand_Altered_J1 k batch_1 l_2 out_7 i_8 (l_2.getD (i_8.toNat) ((0:Int), (0:Int), (0:Int), (0:Int), ())) r2.1 ((out_7.getD (r2.1.toNat) ((0:Int), ([] : (List Int)), ())).1, (([] : (List Int)) ++ (out_7.getD (r2.1.toNat) ((0:Int), ([] : (List Int)), ())).2.1), ()) r3.1) fun o5 =>
              Sum.elim (fun o6 =>
                bif (decide ((0:Int) ≤ o6.2.2.2.2.1) && decide (o6.2.2.2.2.1 < (o6.2.2.1.length : Int))) then
                  some (.inl (o6.1, o6.2.1, (o6.2.2.1.set (o6.2.2.2.2.1.toNat) o6.2.2.2.2.2.1), (IntKind.i64.wrap (o6.2.2.2.1 + (1:Int))), ()))
                else none) (fun o7 =>
                some (.inl (o7.1, o7.2.1, o7.2.2.1, (IntKind.i64.wrap (o7.2.2.2.1 + (1:Int))), ()))) o5
            else none
          else none
        else none
    else none
  else
    some (.inr (out_7, ()))
noncomputable def bodegahand_Altered_L1_it (k : Nat) (batch_1 : Int) (l_2 : (List TAlter)) (out_7 : (List TClocksOutcome)) (i_8 : Int) : Option (((List TClocksOutcome) × Unit)) :=
  iterO (fun s : Int × (List TAlter) × (List TClocksOutcome) × Int × Unit => bodegahand_Altered_L1 k s.1 s.2.1 s.2.2.1 s.2.2.2.1) k (batch_1, l_2, out_7, i_8, ())
noncomputable def bodegahand_Altered (k : Nat) (d_0 : (List TClocksOutcome)) (batch_1 : Int) (l_2 : (List TAlter)) : Option ((List TClocksOutcome) × Unit) :=
  bif (decide (([] : (List TClocksOutcome)).length + d_0.length < 1073741824)) then
    Option.bind (bodegahand_Altered_L1_it k batch_1 l_2 (([] : (List TClocksOutcome)) ++ d_0) (0:Int)) fun o8 =>
    some (o8.1, ())
  else none
def bodegahand_Altered_sig : Sig := ⟨[⟨false, (.list y4), .s, .s⟩, ⟨false, (.int .i64), .s, .s⟩, ⟨false, (.list y5), .s, .s⟩], [((.list y4), (.o .s))]⟩
noncomputable def bodegahand_Altered_te (k : Nat) : TE := ⟨bodegahand_Altered_sig, fun s => bodegahand_Altered k s.1 s.2.1 s.2.2.1⟩
noncomputable def bodegahand_Altered_C (k : Nat) : Ctx := cx [(7, bodegahand_Pick_te k)] [] []
noncomputable def bodegahand_Altered_code : Code := Tryz.f41.body.getD .skip
theorem bodegahand_Altered_tab (k : Nat) : TabOk Tryz.prog (bodegahand_Altered_C k) := ⟨tab_cons (bodegahand_Pick_ok k) (tab_nil), lay_nil⟩
noncomputable def bodegahand_Altered_ac (k : Nat) : AC := (.sq .rg (.sq .rg (.sq (.sq .rg (.bk (.lp [(1, .va (.int .i64) .s), (2, .va (.list y5) .s), (7, .va (.list y4) (.o .s)), (8, .va (.int .i64) .s)] [(.exit 0, [(7, .va (.list y4) (.o .s))])] (fun s => bodegahand_Altered_L1 k s.1 s.2.1 s.2.2.1 s.2.2.2.1) (.sq (.sq .rg (.cd .nx .nx)) (.sq (.bk (.sq .rg (.sq (.sq .rg (.cd .nx .nx)) (.sq .rg (.sq .rg (.sq (.sq .rg (.sm [(1, .va (.int .i64) .s), (2, .va (.list y5) .s), (7, .va (.list y4) (.o .s)), (8, .va (.int .i64) .s), (9, .bo y5 .s), (10, .va (.int .i64) .s), (11, .bo y4 q2), (53, .va (.int .i64) .s)] [(.normal, [(1, .va (.int .i64) .s), (2, .va (.list y5) .s), (7, .va (.list y4) (.o .s)), (8, .va (.int .i64) .s), (10, .va (.int .i64) .s), (11, .bo y4 q2)]), (.exit 1, [(1, .va (.int .i64) .s), (2, .va (.list y5) .s), (7, .va (.list y4) (.o .s)), (8, .va (.int .i64) .s)])] (fun s => bodegahand_Altered_J1 k s.1 s.2.1 s.2.2.1 s.2.2.2.1 s.2.2.2.2.1 s.2.2.2.2.2.1 s.2.2.2.2.2.2.1 s.2.2.2.2.2.2.2.1) (.bk (.sq .rg (.cd .rg (.sq .rg (.cd .rg (.sq .rg (.cd .rg (.sq .rg (.cd (.sq .rg .nx) (.sq .rg (.cd .rg (.sq .rg (.cd .rg .nx))))))))))))))) .rg)))))) .rg))))) (.sq .rg .nx))))
theorem bodegahand_Altered_fix (k : Nat) : acFix (bodegahand_Altered_C k) k 101 (bodegahand_Altered_ac k) bodegahand_Altered_code = bodegahand_Altered_ac k := by kernel_rfl
theorem bodegahand_Altered_eq (k : Nat) (s : bodegahand_Altered_sig.S) : fnEv (bodegahand_Altered_C k) k bodegahand_Altered_sig Tryz.f41 bodegahand_Altered_code (bodegahand_Altered_ac k) s = (bodegahand_Altered_te k).F s := by kernel_rfl
theorem bodegahand_Altered_ok (k : Nat) : CallOk Tryz.prog 41 (bodegahand_Altered_te k) :=
  fn_ok (C := bodegahand_Altered_C k) (code := bodegahand_Altered_code) (g := bodegahand_Altered_sig) (k := k) (Fn := (bodegahand_Altered_te k).F) mixed (tysOk _ _ _) (eqsOk _ _ _) (bodegahand_Altered_tab k) Tryz.func41 (by kernel_rfl) (by kernel_rfl) (of_decide_eq_true (by kernel_rfl)) (by kernel_rfl) (by kernel_rfl) (by kernel_rfl)
    (fun s q h => ⟨bodegahand_Altered_ac k, ok_of_fix _ _ (bodegahand_Altered_fix k), (bodegahand_Altered_eq k s).trans h⟩)

/-! #### bodega/bodegalaw15.replies -/
noncomputable def bodegalaw15_replies (k : Nat) (nodes_0 : Int) (l_1 : (List TVerb)) (world_2 : (List TPoke)) (alter_3 : (List TAlter)) (more_4 : Bool) : Option ((List (List TClocksOutcome)) × Unit) :=
  Option.bind (bodegahand_Prepare k nodes_0 (1:Int) (98:Int) world_2) fun r1 =>
  bif (r1.1.isSome) then
    Option.bind (bodegahand_Play k (r1.1.getD ((0:Int), ([] : (List TNode)), ([] : (List Tclient)), ([] : (List (List TPair))), ([] : (List TPair)), ())) (0:Int) l_1) fun r2 =>
    Option.bind (bodegahand_Altered k r2.1 (0:Int) alter_3) fun r3 =>
    bif more_4 then
      bif (decide ([r3.1].length + [([] : (List TClocksOutcome))].length < 1073741824)) then
        some (([r3.1] ++ [([] : (List TClocksOutcome))]), ())
      else none
    else
      some ([r3.1], ())
  else none
def bodegalaw15_replies_sig : Sig := ⟨[⟨false, (.int .i64), .s, .s⟩, ⟨false, (.list y2), .s, .s⟩, ⟨false, (.list y11), .s, .s⟩, ⟨false, (.list y5), .s, .s⟩, ⟨false, .bool, .s, .s⟩], [((.list (.list y4)), (.o .s))]⟩
noncomputable def bodegalaw15_replies_te (k : Nat) : TE := ⟨bodegalaw15_replies_sig, fun s => bodegalaw15_replies k s.1 s.2.1 s.2.2.1 s.2.2.2.1 s.2.2.2.2.1⟩
noncomputable def bodegalaw15_replies_C (k : Nat) : Ctx := cx [(41, bodegahand_Altered_te k), (42, bodegahand_Play_te k), (43, bodegahand_Prepare_te k)] [] []
noncomputable def bodegalaw15_replies_code : Code := Tryz.f13.body.getD .skip
theorem bodegalaw15_replies_tab (k : Nat) : TabOk Tryz.prog (bodegalaw15_replies_C k) := ⟨tab_cons (bodegahand_Altered_ok k) (tab_cons (bodegahand_Play_ok k) (tab_cons (bodegahand_Prepare_ok k) (tab_nil))), lay_nil⟩
noncomputable def bodegalaw15_replies_ac (_k : Nat) : AC := (.sq .rg (.sq .rg (.sq (.sq .rg (.cd .rg .nx)) (.sq .rg .nx))))
theorem bodegalaw15_replies_fix (k : Nat) : acFix (bodegalaw15_replies_C k) k 25 (bodegalaw15_replies_ac k) bodegalaw15_replies_code = bodegalaw15_replies_ac k := by kernel_rfl
theorem bodegalaw15_replies_eq (k : Nat) (s : bodegalaw15_replies_sig.S) : fnEv (bodegalaw15_replies_C k) k bodegalaw15_replies_sig Tryz.f13 bodegalaw15_replies_code (bodegalaw15_replies_ac k) s = (bodegalaw15_replies_te k).F s := by kernel_rfl
theorem bodegalaw15_replies_ok (k : Nat) : CallOk Tryz.prog 13 (bodegalaw15_replies_te k) :=
  fn_ok (C := bodegalaw15_replies_C k) (code := bodegalaw15_replies_code) (g := bodegalaw15_replies_sig) (k := k) (Fn := (bodegalaw15_replies_te k).F) mixed (tysOk _ _ _) (eqsOk _ _ _) (bodegalaw15_replies_tab k) Tryz.func13 (by kernel_rfl) (by kernel_rfl) (of_decide_eq_true (by kernel_rfl)) (by kernel_rfl) (by kernel_rfl) (by kernel_rfl)
    (fun s q h => ⟨bodegalaw15_replies_ac k, ok_of_fix _ _ (bodegalaw15_replies_fix k), (bodegalaw15_replies_eq k s).trans h⟩)

/-! #### bodega/bodegalaw15.LeaseRenews -/
noncomputable def bodegalaw15_LeaseRenews (k : Nat) (r_0 : TRaw) (nodes_1 : Int) (world_2 : (List TPoke)) (alter_3 : (List TAlter)) (more_4 : Bool) : Option (Bool × Unit) :=
  bif (bif (decide ((10:Int) < (world_2.length : Int))) then true else (decide ((4:Int) < (alter_3.length : Int)))) then
    some (true, ())
  else
    Option.bind (bodegahand_Pick k nodes_1 (5:Int)) fun r1 =>
    Option.bind (bodegalaw15_Raw_renew k r_0 (IntKind.i64.wrap (r1.1 + (1:Int)))) fun r2 =>
    Option.bind (lease_Renew k r2.1 ([] : (List (List TClocksOutcome)))) fun r3 =>
    Option.bind (bodegaref9_Renew k r2.1.1 r2.1.2.1 r2.1.2.2.1 r2.1.2.2.2.1 ([] : (List (List TClocksOutcome)))) fun r4 =>
    Option.bind (bif (!(!(r3.2.2.1 == r4.2.2.1))) then bodegaref4_SameAll k r3.1 r4.1 else some (false, ())) fun r5 =>
    Option.bind (bif (!(bif (bif (!(r3.2.2.1 == r4.2.2.1)) then true else (!r5.1)) then true else (!(decide (r3.2.1.1 = r4.2.1))))) then bodegalaw15_awake k  else some (false, ())) fun r6 =>
    bif (bif (bif (bif (!(r3.2.2.1 == r4.2.2.1)) then true else (!r5.1)) then true else (!(decide (r3.2.1.1 = r4.2.1)))) then true else (!r6.1)) then
      some (false, ())
    else
      Option.bind (bodegalaw15_replies k (IntKind.i64.wrap (r1.1 + (1:Int))) r4.1 world_2 alter_3 more_4) fun r7 =>
      Option.bind (lease_Renew k r2.1 r7.1) fun r8 =>
      Option.bind (bodegaref9_Renew k r2.1.1 r2.1.2.1 r2.1.2.2.1 r2.1.2.2.2.1 r7.1) fun r9 =>
      some ((bif (bif (bif r8.2.2.1 then r9.2.2.1 else false) then (decide ((r8.1.length : Int) = (0:Int))) else false) then (decide (r8.2.1.1 = r9.2.1)) else false), ())
def bodegalaw15_LeaseRenews_sig : Sig := ⟨[⟨false, y12, .s, .s⟩, ⟨false, (.int .i64), .s, .s⟩, ⟨false, (.list y11), .s, .s⟩, ⟨false, (.list y5), .s, .s⟩, ⟨false, .bool, .s, .s⟩], [(.bool, .s)]⟩
noncomputable def bodegalaw15_LeaseRenews_te (k : Nat) : TE := ⟨bodegalaw15_LeaseRenews_sig, fun s => bodegalaw15_LeaseRenews k s.1 s.2.1 s.2.2.1 s.2.2.2.1 s.2.2.2.2.1⟩
noncomputable def bodegalaw15_LeaseRenews_C (k : Nat) : Ctx := cx [(7, bodegahand_Pick_te k), (8, bodegalaw15_Raw_renew_te k), (9, lease_Renew_te k), (10, bodegaref9_Renew_te k), (11, bodegaref4_SameAll_te k), (12, bodegalaw15_awake_te k), (13, bodegalaw15_replies_te k)] [] []
noncomputable def bodegalaw15_LeaseRenews_code : Code := Tryz.f3.body.getD .skip
theorem bodegalaw15_LeaseRenews_tab (k : Nat) : TabOk Tryz.prog (bodegalaw15_LeaseRenews_C k) := ⟨tab_cons (bodegahand_Pick_ok k) (tab_cons (bodegalaw15_Raw_renew_ok k) (tab_cons (lease_Renew_ok k) (tab_cons (bodegaref9_Renew_ok k) (tab_cons (bodegaref4_SameAll_ok k) (tab_cons (bodegalaw15_awake_ok k) (tab_cons (bodegalaw15_replies_ok k) (tab_nil))))))), lay_nil⟩
noncomputable def bodegalaw15_LeaseRenews_ac (_k : Nat) : AC := (.sq .rg (.sq (.sq .rg (.cd (.sq .rg .nx) .nx)) (.sq .rg (.sq .rg (.sq .rg (.sq .rg (.sq (.sq .rg (.cd (.sq .rg .nx) .nx)) (.sq .rg (.sq .rg (.sq .rg (.sq .rg .nx)))))))))))
theorem bodegalaw15_LeaseRenews_fix (k : Nat) : acFix (bodegalaw15_LeaseRenews_C k) k 113 (bodegalaw15_LeaseRenews_ac k) bodegalaw15_LeaseRenews_code = bodegalaw15_LeaseRenews_ac k := by kernel_rfl
theorem bodegalaw15_LeaseRenews_eq (k : Nat) (s : bodegalaw15_LeaseRenews_sig.S) : fnEv (bodegalaw15_LeaseRenews_C k) k bodegalaw15_LeaseRenews_sig Tryz.f3 bodegalaw15_LeaseRenews_code (bodegalaw15_LeaseRenews_ac k) s = (bodegalaw15_LeaseRenews_te k).F s := by kernel_rfl
theorem bodegalaw15_LeaseRenews_ok (k : Nat) : CallOk Tryz.prog 3 (bodegalaw15_LeaseRenews_te k) :=
  fn_ok (C := bodegalaw15_LeaseRenews_C k) (code := bodegalaw15_LeaseRenews_code) (g := bodegalaw15_LeaseRenews_sig) (k := k) (Fn := (bodegalaw15_LeaseRenews_te k).F) mixed (tysOk _ _ _) (eqsOk _ _ _) (bodegalaw15_LeaseRenews_tab k) Tryz.func3 (by kernel_rfl) (by kernel_rfl) (of_decide_eq_true (by kernel_rfl)) (by kernel_rfl) (by kernel_rfl) (by kernel_rfl)
    (fun s q h => ⟨bodegalaw15_LeaseRenews_ac k, ok_of_fix _ _ (bodegalaw15_LeaseRenews_fix k), (bodegalaw15_LeaseRenews_eq k s).trans h⟩)

/-! #### bodega/layout.Clock -/
noncomputable def layout_Clock (k : Nat) (c : Int) : Option (Int × Unit) := Option.bind (layout_region_1 k c (6:Int) (4:Int)) fun r => some (r.1, ())
def layout_Clock_sig : Sig := cloSig
noncomputable def layout_Clock_te (k : Nat) : TE := ⟨cloSig, fun s => layout_Clock k s.1⟩
theorem layout_Clock_ok (k : Nat) : CallOk Tryz.prog 46 (layout_Clock_te k) :=
  clo_ok (fR := 62) (fC := 86) (A := 4) (B := 6) (X := 6) (Y := 4) Tryz.func46 rfl (by kernel_rfl) (by kernel_rfl) (by kernel_rfl) (layout_region_clo 4 6) (layout_region_1_ok k) (fun c q h => by
    obtain ⟨⟨a, x, y, u⟩, h1, h2⟩ := Option.bind_eq_some_iff.1 h
    cases h2
    exact ⟨x, y, h1⟩)

/-! #### bodega/view.Primary -/
noncomputable def view_Primary (_k : Nat) (v_0 : TView) : Option (TMember × Bool × Unit) :=
  bif (decide ((v_0.2.1.length : Int) = (0:Int))) then
    some (((0:Int), (0:Int), false, ()), false, ())
  else
    bif (decide ((0:Int) ≤ (0:Int)) && decide ((0:Int) < (v_0.2.1.length : Int))) then
      some ((v_0.2.1.getD 0 ((0:Int), (0:Int), false, ())), true, ())
    else none
def view_Primary_sig : Sig := ⟨[⟨false, y3, .s, .s⟩], [(y9, .s), (.bool, .s)]⟩
noncomputable def view_Primary_te (k : Nat) : TE := ⟨view_Primary_sig, fun s => view_Primary k s.1⟩
noncomputable def view_Primary_C (_k : Nat) : Ctx := cx [] [] []
noncomputable def view_Primary_code : Code := Tryz.f83.body.getD .skip
theorem view_Primary_tab (k : Nat) : TabOk Tryz.prog (view_Primary_C k) := ⟨tab_nil, lay_nil⟩
noncomputable def view_Primary_ac (_k : Nat) : AC := (.sq .rg (.sq (.sq .rg (.cd (.sq .rg .nx) .nx)) (.sq .rg .nx)))
theorem view_Primary_fix (k : Nat) : acFix (view_Primary_C k) k 13 (view_Primary_ac k) view_Primary_code = view_Primary_ac k := by kernel_rfl
theorem view_Primary_eq (k : Nat) (s : view_Primary_sig.S) : fnEv (view_Primary_C k) k view_Primary_sig Tryz.f83 view_Primary_code (view_Primary_ac k) s = (view_Primary_te k).F s := by kernel_rfl
theorem view_Primary_ok (k : Nat) : CallOk Tryz.prog 83 (view_Primary_te k) :=
  fn_ok (C := view_Primary_C k) (code := view_Primary_code) (g := view_Primary_sig) (k := k) (Fn := (view_Primary_te k).F) mixed (tysOk _ _ _) (eqsOk _ _ _) (view_Primary_tab k) Tryz.func83 (by kernel_rfl) (by kernel_rfl) (of_decide_eq_true (by kernel_rfl)) (by kernel_rfl) (by kernel_rfl) (by kernel_rfl)
    (fun s q h => ⟨view_Primary_ac k, ok_of_fix _ _ (view_Primary_fix k), (view_Primary_eq k s).trans h⟩)

/-! #### bodega/lease.Clocks$1 -/
noncomputable def lease_Clocks_1 (k : Nat) (e_0 : Int) (words_1 : (List Int)) : Option (TClocksOutcome × Unit) :=
  Option.bind (slices_Clone k words_1) fun r1 =>
  some ((e_0, r1.1, ()), ())
def lease_Clocks_1_sig : Sig := ⟨[⟨false, (.int .i64), .s, .s⟩, ⟨false, (.list (.int .u64)), .s, .s⟩], [(y4, q2)]⟩
noncomputable def lease_Clocks_1_te (k : Nat) : TE := ⟨lease_Clocks_1_sig, fun s => lease_Clocks_1 k s.1 s.2.1⟩
noncomputable def lease_Clocks_1_C (k : Nat) : Ctx := cx [(48, slices_Clone_te k)] [] []
noncomputable def lease_Clocks_1_code : Code := Tryz.f47.body.getD .skip
theorem lease_Clocks_1_tab (k : Nat) : TabOk Tryz.prog (lease_Clocks_1_C k) := ⟨tab_cons (slices_Clone_ok k) (tab_nil), lay_nil⟩
noncomputable def lease_Clocks_1_ac (_k : Nat) : AC := (.sq .rg (.sq .rg .nx))
theorem lease_Clocks_1_fix (k : Nat) : acFix (lease_Clocks_1_C k) k 9 (lease_Clocks_1_ac k) lease_Clocks_1_code = lease_Clocks_1_ac k := by kernel_rfl
theorem lease_Clocks_1_eq (k : Nat) (s : lease_Clocks_1_sig.S) : fnEv (lease_Clocks_1_C k) k lease_Clocks_1_sig Tryz.f47 lease_Clocks_1_code (lease_Clocks_1_ac k) s = (lease_Clocks_1_te k).F s := by kernel_rfl
theorem lease_Clocks_1_ok (k : Nat) : CallOk Tryz.prog 47 (lease_Clocks_1_te k) :=
  fn_ok (C := lease_Clocks_1_C k) (code := lease_Clocks_1_code) (g := lease_Clocks_1_sig) (k := k) (Fn := (lease_Clocks_1_te k).F) mixed (tysOk _ _ _) (eqsOk _ _ _) (lease_Clocks_1_tab k) Tryz.func47 (by kernel_rfl) (by kernel_rfl) (of_decide_eq_true (by kernel_rfl)) (by kernel_rfl) (by kernel_rfl) (by kernel_rfl)
    (fun s q h => ⟨lease_Clocks_1_ac k, ok_of_fix _ _ (lease_Clocks_1_fix k), (lease_Clocks_1_eq k s).trans h⟩)

/-! #### bodega/lease.readOnce(bodega/lease.ClocksOutcome) -/
noncomputable def lease_readOnce_1 (k : Nat) (v_0 : TView) (t_1 : Int) (n_2 : Int) (got_3 : (List (List TClocksOutcome))) : Option ((List TVerb) × TClocksOutcome × Bool × Unit) :=
  Option.bind (view_Primary k v_0) fun r1 =>
  Option.bind (view_Address k v_0 r1.1 true ((1:Int), (0:Int), t_1, n_2, (0:Int), (0:Int), ([] : (List Int)), (0:Int), (0:Int), ())) fun r2 =>
  Option.bind (lease_talkOnce k [r2.1] got_3) fun r3 =>
  bif (!r3.2.2.2.1) then
    some (r3.1, ((0:Int), ([] : (List Int)), ()), false, ())
  else
    bif (!(decide (r3.2.2.1 = (0:Int)))) then
      Option.bind (lease_Clocks_1 k r3.2.2.1 ([] : (List Int))) fun r4 =>
      some (([] : (List TVerb)), r4.1, true, ())
    else
      bif (decide ((0:Int) ≤ (0:Int)) && decide ((0:Int) < (r3.2.1.length : Int))) then
        Option.bind (lease_Clocks_1 k (0:Int) (r3.2.1.getD 0 ((0:Int), ([] : (List Int)), ())).2.1) fun r5 =>
        some (([] : (List TVerb)), r5.1, true, ())
      else none
def lease_readOnce_sig : Sig := ⟨[⟨false, y3, .s, .s⟩, ⟨false, (.int .i64), .s, .s⟩, ⟨false, (.int .i64), .s, .s⟩, ⟨false, (.list (.list y4)), .s, .s⟩, ⟨false, .fn, .s, .s⟩], [((.list y2), .s), (y4, .s), (.bool, .s)]⟩
noncomputable def lease_readOnce_te (k : Nat) : TE := ⟨lease_readOnce_sig, fun s => match s.2.2.2.2.1 with | some n => (match Nat.beq n 47 with | true => lease_readOnce_1 k s.1 s.2.1 s.2.2.1 s.2.2.2.1 | false => none) | none => none⟩
noncomputable def lease_readOnce_C (k : Nat) : Ctx := cx [(30, view_Address_te k), (31, lease_talkOnce_te k), (47, lease_Clocks_1_te k), (83, view_Primary_te k)] [] []
noncomputable def lease_readOnce_code : Code := Tryz.f45.body.getD .skip
theorem lease_readOnce_tab (k : Nat) : TabOk Tryz.prog (lease_readOnce_C k) := ⟨tab_cons (view_Address_ok k) (tab_cons (lease_talkOnce_ok k) (tab_cons (lease_Clocks_1_ok k) (tab_cons (view_Primary_ok k) (tab_nil)))), lay_nil⟩
noncomputable def lease_readOnce_1_ac (_k : Nat) : AC := (.sq .rg (.sq .rg (.sq .rg (.sq .rg (.sq (.bk (.sq .rg (.cd (.sq .rg .nx) (.sq .rg (.cd (.sq .rg .nx) .nx))))) (.sq .rg .nx))))))
theorem lease_readOnce_1_fix (k : Nat) : acFix (lease_readOnce_C k) k 55 (lease_readOnce_1_ac k) lease_readOnce_code = lease_readOnce_1_ac k := by kernel_rfl
theorem lease_readOnce_1_eq (k : Nat) (x0 : TView) (x1 : Int) (x2 : Int) (x3 : (List (List TClocksOutcome))) : fnEv (lease_readOnce_C k) k lease_readOnce_sig Tryz.f45 lease_readOnce_code (lease_readOnce_1_ac k) (x0, x1, x2, x3, (some 47), ()) = lease_readOnce_1 k x0 x1 x2 x3 := by kernel_rfl
theorem lease_readOnce_ok (k : Nat) : CallOk Tryz.prog 45 (lease_readOnce_te k) :=
  fn_ok (C := lease_readOnce_C k) (code := lease_readOnce_code) (g := lease_readOnce_sig) (k := k) (Fn := (lease_readOnce_te k).F) mixed (tysOk _ _ _) (eqsOk _ _ _) (lease_readOnce_tab k) Tryz.func45 (by kernel_rfl) (by kernel_rfl) (of_decide_eq_true (by kernel_rfl)) (by kernel_rfl) (by kernel_rfl) (by kernel_rfl)
    (by
      rintro ⟨x0, x1, x2, x3, x4, u⟩ q h
      cases u
      cases x4 with
      | none => cases h
      | some n =>
        by_cases hn : n = 47
        · subst hn; exact ⟨lease_readOnce_1_ac k, ok_of_fix _ _ (lease_readOnce_1_fix k), (lease_readOnce_1_eq k x0 x1 x2 x3).trans h⟩
        have hb47 : Nat.beq n 47 = false := by cases hq : Nat.beq n 47 with | false => rfl | true => exact absurd (Nat.eq_of_beq_eq_true hq) hn
        simp [lease_readOnce_te, hb47] at h)

end Go.Proofs.YtkgjdglkkoabmaaGreat.N
