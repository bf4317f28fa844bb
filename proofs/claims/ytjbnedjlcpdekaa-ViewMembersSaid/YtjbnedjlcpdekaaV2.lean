import Derived.Test.YtjbnedjlcpdekaaV1
import Derived.Laws.Entries
import Derived.Laws.StructEq
import Derived.Laws.Small
import Derived.Laws.Unary

namespace Go.VL

/-! ### The program's types -/
def isZs (f : List Value → Bool) (sz : Nat) : Nat → List Value → Bool
  | 0, cs => cs.isEmpty
  | n + 1, cs => f (cs.take sz) && isZs f sz n (cs.drop sz)

def isZ : Ty → List Value → Bool
  | .int k, cs => match cs with | [.int k' n] => k == k' && n == 0 | _ => false
  | .bool, cs => match cs with | [.bool b] => !b | _ => false
  | .str, cs => match cs with | [.string s] => s.data.toList.isEmpty | _ => false
  | .unit, cs => match cs with | [] => true | _ => false
  | .list _, cs => match cs with | [.slice none 0 0] => true | _ => false
  | .ptr _, cs => match cs with | [.pointer none] => true | _ => false
  | .fn, cs => match cs with | [.nilFunc] => true | _ => false
  | .pair a b, cs => isZ a (cs.take a.sz) && isZ b (cs.drop a.sz)
  | .arr n a, cs => isZs (isZ a) a.sz n cs

theorem isZ_rep {G : Nat → Prop} {w : World} : ∀ (t : Ty) (cs : List Value), isZ t cs = true → rep G w t (zmd t) t.zero cs [] := by
  intro t
  induction t with
  | int k =>
    intro cs h
    rcases cs with _ | ⟨v, _ | ⟨v2, cs⟩⟩ <;> (try cases v) <;> simp only [isZ] at h <;> try cases h
    simp only [Bool.and_eq_true, beq_iff_eq] at h
    obtain ⟨rfl, rfl⟩ := h
    exact ⟨rfl, rfl⟩
  | bool =>
    intro cs h
    rcases cs with _ | ⟨v, _ | ⟨v2, cs⟩⟩ <;> (try cases v) <;> simp only [isZ] at h <;> try cases h
    simp only [Bool.not_eq_true'] at h
    subst h
    exact ⟨rfl, rfl⟩
  | str =>
    intro cs h
    rcases cs with _ | ⟨v, _ | ⟨v2, cs⟩⟩ <;> (try cases v) <;> simp only [isZ] at h <;> try cases h
    rename_i s
    refine ⟨⟨s, rfl, ?_⟩, rfl⟩
    simp only [List.isEmpty_iff] at h
    simp [bytesV, h, Ty.zero]
  | unit =>
    intro cs h
    rcases cs with _ | ⟨v, cs⟩
    · exact ⟨rfl, rfl⟩
    · simp [isZ] at h
  | list a ih =>
    intro cs h
    rcases cs with _ | ⟨v, _ | ⟨v2, cs⟩⟩
    · simp [isZ] at h
    · cases v <;> (try (simp [isZ] at h; done))
      rename_i A l c
      cases A <;> cases l <;> cases c <;> simp [isZ] at h
      exact .inl ⟨rfl, rfl, rfl⟩
    · cases v <;> simp [isZ] at h
  | ptr a ih =>
    intro cs h
    rcases cs with _ | ⟨v, _ | ⟨v2, cs⟩⟩
    · simp [isZ] at h
    · cases v <;> (try (simp [isZ] at h; done))
      rename_i A
      cases A <;> simp [isZ] at h
      exact ⟨rfl, rfl, rfl⟩
    · cases v <;> simp [isZ] at h
  | fn =>
    intro cs h
    rcases cs with _ | ⟨v, _ | ⟨v2, cs⟩⟩ <;> (try cases v) <;> simp only [isZ] at h <;> try cases h
    exact ⟨rfl, rfl⟩
  | pair a b iha ihb =>
    intro cs h
    unfold isZ at h
    simp only [Bool.and_eq_true] at h
    refine ⟨cs.take a.sz, cs.drop a.sz, [], [], ?_, ?_, (List.take_append_drop _ _).symm, rfl⟩
    · simp only [zmd, Md.mk_l]; exact iha _ h.1
    · simp only [zmd, Md.mk_r]; exact ihb _ h.2
  | arr n a ih =>
    intro cs h
    have h : isZs (isZ a) a.sz n cs = true := h
    have he : (zmd (.arr n a)).e = zmd a := by
      simp only [zmd]
      cases zmd a <;> rfl
    refine ⟨by simp [Ty.zero], ?_⟩
    rw [he]
    show repA _ (List.replicate n a.zero) cs []
    have : ∀ n cs, isZs (isZ a) a.sz n cs = true → repA (rep G w a (zmd a)) (List.replicate n a.zero) cs [] := by
      intro n
      induction n with
      | zero => intro cs h; unfold isZs at h; simp only [List.isEmpty_iff] at h; exact ⟨h, rfl⟩
      | succ n ih2 =>
        intro cs h
        unfold isZs at h
        simp only [Bool.and_eq_true] at h
        exact ⟨cs.take a.sz, cs.drop a.sz, [], [], ih _ h.1, ih2 _ h.2, (List.take_append_drop _ _).symm, rfl⟩
    exact this n cs h

def fieldsChk (ty : TypeId → Option Ty) : List Field → Nat → Ty → Bool
  | [], _, .unit => true
  | f :: fs, off, .pair a b => f.offset == off && (match ty f.type with | some a' => decide (a' = a) | none => false) && a.sz != 0 && f.name != "_" && fieldsChk ty fs (off + a.sz) b
  | _, _, _ => false

def descChk (ty : TypeId → Option Ty) : Ty → TypeDesc → Bool
  | .int k, .int k' => k == k'
  | .bool, .bool => true
  | .str, .string => true
  | .unit, .struct fs => fs.toList.isEmpty
  | .pair a b, .struct fs => fieldsChk ty fs.toList 0 (.pair a b)
  | .list a, .slice e => (match ty e with | some a' => decide (a' = a) | none => false) && a.sz != 0
  | .arr n a, .array n' e => n == n' && (match ty e with | some a' => decide (a' = a) | none => false) && a.sz != 0
  | .ptr a, .pointer e => (match ty e with | some a' => decide (a' = a) | none => false) && a.sz != 0
  | .fn, .func _ _ _ => true
  | _, _ => false

def tyChk (P : Program) (ty : TypeId → Option Ty) (T : TypeId) (t : Ty) : Bool :=
  match P.info? T, P.underlying T with
  | some i, some d => i.size == t.sz && decide (i.bytes ≤ 65536) && descChk ty t d &&
      (match i.zero with
       | some (.agg cs) => t.agg && isZ t cs.toList
       | some v => !t.agg && isZ t [v]
       | none => false)
  | _, _ => false

structure TyF (P : Program) (C : Ctx) (T : TypeId) (t : Ty) : Prop where
  size : ∀ w, (sizeOf T).run P w = .ok t.sz w
  agg : ∀ w, (isAgg T).run P w = .ok t.agg w
  zero : ∃ cs, (∀ w, (zeroValue T).run P w = .ok (pack t cs) w) ∧ isZ t cs = true
  bytes : ∃ i, (∀ w, (typeInfo T).run P w = .ok i w) ∧ i.bytes ≤ 65536
  und : ∃ d, P.underlying T = some d ∧ descChk C.ty t d = true

theorem tyF {P : Program} {C : Ctx} {T : TypeId} {t : Ty} (h : tyChk P C.ty T t = true) : TyF P C T t := by
  unfold tyChk at h
  split at h
  case h_2 => cases h
  rename_i i d hi hd
  simp only [Bool.and_eq_true, beq_iff_eq, decide_eq_true_eq] at h
  obtain ⟨⟨⟨hs, hb⟩, hdc⟩, hz⟩ := h
  have info : ∀ w, (typeInfo T).run P w = .ok i w := fun w => by simp [typeInfo, hi]
  refine { size := fun w => by simp [sizeOf, info, hs], agg := fun w => ?_, zero := ?_, bytes := ⟨i, info, hb⟩, und := ⟨d, hd, hdc⟩ }
  · simp only [isAgg, Sem.run_bind, run_underlying hd, Result.andThen_ok]
    cases t <;> cases d <;> simp only [descChk] at hdc <;> first | rfl | cases hdc
  · split at hz
    · rename_i cs hz'
      simp only [Bool.and_eq_true] at hz
      exact ⟨cs.toList, fun w => by simp [zeroValue, info, hz', pack, hz.1], hz.2⟩
    · rename_i v hne hz'
      simp only [Bool.and_eq_true, Bool.not_eq_true'] at hz
      exact ⟨[v], fun w => by simp [zeroValue, info, hz', pack, hz.1], hz.2⟩
    · cases hz

/-- all of the table's types are as the program has them -/
def TysOk (P : Program) (C : Ctx) : Prop := ∀ T t, C.ty T = some t → tyChk P C.ty T t = true

/-! ### Loads and stores -/
theorem pack_cells {t : Ty} {cs : List Value} (hl : cs.length = t.sz) (h1 : ∀ v ∈ cs, v.oneCell' = true) : (pack t cs).cells.toList = cs := by
  unfold pack
  by_cases ha : t.agg = true
  · simp [ha, Value.cells]
  · simp only [ha, if_false, Bool.false_eq_true]
    have hz : t.sz = 1 := by cases t <;> first | rfl | simp [Ty.agg] at ha
    rw [hz] at hl
    match cs, hl with
    | [v], _ =>
      have := h1 v (by simp)
      cases v <;> first | rfl | simp [Value.oneCell'] at this

theorem run_loadVar {P : Program} {C : Ctx} {T : TypeId} {t : Ty} (f : TyF P C T t) {w : World} {ad : Addr} {cs : List Value} (hl : cs.length = t.sz) (hc : cellsAt w ad cs) :
    (loadVar T ad).run P w = .ok (pack t cs) w := by
  simp only [loadVar, Sem.run_bind, f.agg, Result.andThen_ok]
  by_cases ha : t.agg = true
  · simp only [ha, if_true, Sem.run_bind, f.size, Result.andThen_ok, ← hl, run_loadCells_list w ad cs hc, pack]
    rfl
  · simp only [ha, if_false, Bool.false_eq_true, pack, run_load]
    have hz : t.sz = 1 := by cases t <;> first | rfl | simp [Ty.agg] at ha
    rw [hz] at hl
    match cs, hl with
    | [v], _ =>
      have := hc 0 v rfl
      simp only [Addr.add, if_true] at this
      simp [this]

def rng (b o n : Nat) : Nat → Nat → Prop := fun p i => p = b ∧ o ≤ i ∧ i < o + n

theorem setCell_turn (w : World) (b o : Nat) (v : Value) : Turn (rng b o 1) w (w.setCell ⟨b, o, none⟩ v) where
  size := by simp
  shape := fun p c e f hp => by
    simp only [World.setCell, Array.getElem?_modify]
    by_cases h : b = p
    · subst h
      simp only [if_true, hp, Option.map_some]
      exact ⟨_, rfl, by simp⟩
    · exact ⟨c, by simp [h, hp], rfl⟩
  cell := fun a hlt hx => by
    rw [World.cell?_setCell_other]
    intro e
    rw [← e] at hx
    exact hx rfl ⟨rfl, Nat.le_refl _, Nat.lt_succ_self _⟩
  os := rfl
  tape := rfl
  output := rfl
  block := fun p hp hx => by
    have hne : p ≠ b := fun e => hx o ⟨e, Nat.le_refl _, Nat.lt_succ_self _⟩
    simp only [World.setCell, Array.getElem?_modify]
    simp [Ne.symm hne]

theorem cell_of_span {w : World} {b hi o : Nat} (h : spanOk w b hi) (ho : o < hi) : (∃ u, w.cell? ⟨b, o, none⟩ = some u) ∧ w.frozen? ⟨b, o, none⟩ = false := by
  obtain ⟨c, e, hb, hc⟩ := h
  refine ⟨⟨c[o], ?_⟩, ?_⟩
  · simp [World.cell?, hb, Array.getElem?_eq_getElem (show o < c.size by omega)]
  · simp [World.frozen?, hb]

theorem run_storeCells {P : Program} : ∀ (cs : List Value) (w : World) (b o i : Nat), spanOk w b (o + i + cs.length) → (∀ v ∈ cs, v.oneCell' = true) →
    ∃ w', (storeCells ⟨b, o, none⟩ cs i).run P w = .ok () w' ∧ Turn (rng b (o + i) cs.length) w w' ∧ cellsAt w' ⟨b, o + i, none⟩ cs
  | [], w, b, o, i, _, _ => ⟨w, rfl, Turn.refl _ w, cellsAt_nil⟩
  | v :: cs, w, b, o, i, hsp, h1 => by
    obtain ⟨⟨u, hu⟩, hfz⟩ := cell_of_span (o := o + i) hsp (by simp)
    have ht := setCell_turn w b (o + i) v
    obtain ⟨w', hrun, ht', hc'⟩ := run_storeCells (P := P) cs (w.setCell ⟨b, o + i, none⟩ v) b o (i + 1) (ht.toSame.span (by simpa [Nat.add_assoc, Nat.add_comm 1] using hsp)) (fun x hx => h1 x (by simp [hx]))
    refine ⟨w', ?_, ?_, ?_⟩
    · simp only [storeCells, Sem.run_bind, add_mk, run_store P w _ v _ (h1 v (by simp)), hu, hfz, Bool.false_eq_true, if_false, Result.andThen_ok]
      exact hrun
    · refine ht.trans ht' (fun p j _ hx => ?_) (fun p j _ hx => ?_)
      · obtain ⟨h2, h3, h4⟩ := hx
        exact ⟨h2, h3, by simp; omega⟩
      · obtain ⟨h2, h3, h4⟩ := hx
        exact ⟨h2, by omega, by simp; omega⟩
    · intro j x hj
      rw [add_mk]
      cases j with
      | zero =>
        simp only [List.getElem?_cons_zero, Option.some.injEq] at hj
        subst hj
        have h0 : (w.setCell ⟨b, o + i, none⟩ v).cell? ⟨b, o + i, none⟩ = some v := World.cell?_setCell_same w _ _ hu
        exact ht'.toSame.cellSome h0 (fun ⟨_, h, _⟩ => by simp at h; omega)
      | succ j =>
        simp only [List.getElem?_cons_succ] at hj
        have := hc' j x hj
        rw [add_mk] at this
        rwa [show o + i + (j + 1) = o + (i + 1) + j by omega]

theorem run_storeVar {P : Program} {C : Ctx} {T : TypeId} {t : Ty} (f : TyF P C T t) {w : World} {b o : Nat} {cs : List Value} (hl : cs.length = t.sz) (h1 : ∀ v ∈ cs, v.oneCell' = true) (hsp : spanOk w b (o + t.sz)) :
    ∃ w', (storeVar T ⟨b, o, none⟩ (pack t cs)).run P w = .ok () w' ∧ Turn (rng b o t.sz) w w' ∧ cellsAt w' ⟨b, o, none⟩ cs := by
  have hcells := pack_cells hl h1
  have hsz : (pack t cs).cells.size = t.sz := by
    have := congrArg List.length hcells
    rw [Array.length_toList] at this
    rw [this, hl]
  obtain ⟨w', hr, ht, hc⟩ := run_storeCells (P := P) cs w b o 0 (by simpa [hl] using hsp) h1
  refine ⟨w', ?_, by simpa [hl] using ht, by simpa using hc⟩
  simp only [storeVar, Sem.run_bind, f.size, Result.andThen_ok, hsz, ne_eq, not_true_eq_false, if_false, hcells]
  simpa using hr

theorem alloc_turn (w : World) (o : Obj) : Turn (fun _ _ => False) w (w.alloc o) where
  size := by simp
  shape := fun p c e f hp => ⟨c, by
    simp only [World.alloc, Array.getElem?_push]
    have : p ≠ w.heap.size := fun e => by subst e; simp at hp
    simp [this, hp], rfl⟩
  cell := fun a hlt _ => World.cell?_alloc_lt w o a hlt
  os := rfl
  tape := rfl
  output := rfl
  block := fun p hp _ => Go.RowKit.Below.heap_alloc w o p hp

end Go.VL

namespace Go.VL

def setO (ts : List Value) : Option Nat → Value → List Value
  | some d, v => ts.set d v
  | none, _ => ts

/-- an operation has been carried out: the model's value, and the slots behind it -/
def OpOut {ρ : Type} (P : Program) (B : Base) (env : Env) (ts : List Value) (w : World) (o : Oper) (K : Unit → Env → Option ρ) (r : ρ) : Prop :=
  ∃ v w' G' F' env', ((execOp (evalO ts) o).run P w = .ok (.value v) w' ∨ ((execOp (evalO ts) o).run P w = .ok .skip w' ∧ v = undef)) ∧
    K () env' = some r ∧ RelX B G' F' [] env' (setO ts o.dst v) w' ∧ env'.length = env.length

section
variable {P : Program} {C : Ctx} {B : Base} {G : Nat → Prop} {F : Nat → List Res} {H : List (TV × Value)} {env : Env} {ts : List Value} {w : World}

theorem Cur.moved {c : List GI} {env' : Env} (h : Cur env c) (he : Kept c env env') : Cur env' c := by
  rcases he with rfl | he
  · intro b hb; simp at hb
  · intro b hb; rw [he b hb]; exact h b hb

theorem set_val {ρ : Type} {c : List GI} {d : Nat} {u : TV} {v : Value} {K : Unit → Env → Option ρ} {r : ρ} (R : RelX B G F [(u, v)] env ts w) (hc : Cur env c) (hg : gOf c = true) (hl : ∀ l ∈ B.lents, l.1 ≠ d)
    (h : (Rd.set d true (.val u.t u.m u.x)).run c (some d) env K = some r) : ∃ F' env', K () env' = some r ∧ RelX B G F' [] env' (ts.set d v) w ∧ env'.length = env.length := by
  have hch : ∀ a ∈ c, a.ep ≤ (env.get a.slot).ep ∧ ((env.get a.slot).ep = a.ep → gval (env.get a.slot).e = some a.v) := fun a ha => by
    obtain ⟨h1, h2⟩ := hc a ha
    exact ⟨by omega, fun _ => h2⟩
  by_cases hd : d < env.length
  · rcases Rd.run_set h with ⟨rfl, h⟩ | ⟨_, _, h⟩
    · exact ⟨_, _, h, RelX.unhold (H := []) R hd [] rfl (by simp) hl (.inl rfl), Env.length_put _ _⟩
    · exact ⟨_, _, h, RelX.unhold (H := []) R hd c hg hch hl (.inr rfl), Env.length_put _ _⟩
  · have e1 : ∀ e, env.put ⟨d, true, e⟩ = env := fun e => by simp [Env.put, List.set_eq_of_length_le (Nat.le_of_not_lt hd)]
    have e2 : ts.set d v = ts := List.set_eq_of_length_le (by rw [← R.len]; exact Nat.le_of_not_lt hd)
    rw [e2]
    rcases Rd.run_set h with ⟨_, h⟩ | ⟨_, _, h⟩ <;> rw [e1] at h <;> exact ⟨_, _, h, RelX.dropHeld (H := []) R, rfl⟩

theorem set_ref {ρ : Type} {c : List GI} {d : Nat} {e : Entry} {v : Value} {K : Unit → Env → Option ρ} {r : ρ} (R : RelX B G F [] env ts w) (hc : Cur env c) (hg : gOf c = true) (hl : ∀ l ∈ B.lents, l.1 ≠ d)
    (hrel : slotRel G w env ts e v []) (hne : ∀ g e', e ≠ .g g e')
    (h : (Rd.set d true e).run c (some d) env K = some r) : ∃ F' env', K () env' = some r ∧ RelX B G F' [] env' (ts.set d v) w ∧ env'.length = env.length := by
  have hch : ∀ a ∈ c, a.ep ≤ (env.get a.slot).ep ∧ ((env.get a.slot).ep = a.ep → gval (env.get a.slot).e = some a.v) := fun a ha => by
    obtain ⟨h1, h2⟩ := hc a ha
    exact ⟨by omega, fun _ => h2⟩
  by_cases hd : d < env.length
  · rcases Rd.run_set h with ⟨rfl, h⟩ | ⟨_, _, h⟩
    · exact ⟨_, _, h, R.setSlot hd (slotRel_put hd _ _ _ hrel) List.Pairwise.nil (fun _ _ r hr => by simp at hr) (fun r hr => by simp at hr) (fun g e' he => absurd he (hne g e')) (fun l hl' he => absurd he (hl l hl')), Env.length_put _ _⟩
    · refine ⟨_, _, h, R.setSlot hd ?_ List.Pairwise.nil (fun _ _ r hr => by simp at hr) (fun r hr => by simp at hr) (fun g e' he => ?_) (fun l hl' he => absurd he (hl l hl')), Env.length_put _ _⟩
      · simp only [slotRel, hg]; exact slotRel_put hd _ _ _ hrel
      · cases he; exact hch
  · have e1 : ∀ e, env.put ⟨d, true, e⟩ = env := fun e => by simp [Env.put, List.set_eq_of_length_le (Nat.le_of_not_lt hd)]
    have e2 : ts.set d v = ts := List.set_eq_of_length_le (by rw [← R.len]; exact Nat.le_of_not_lt hd)
    rw [e2]
    rcases Rd.run_set h with ⟨_, h⟩ | ⟨_, _, h⟩ <;> rw [e1] at h <;> exact ⟨_, _, h, R, rfl⟩

/-- a plain result is put into its slot -/
theorem set_plain {ρ : Type} {c : List GI} {d : Nat} {t : Ty} {m : Md} {x : t.den} {v : Value} {K : Unit → Env → Option ρ} {r : ρ} (R : RelX B G F [] env ts w) (hc : Cur env c) (hg : gOf c = true) (hl : ∀ l ∈ B.lents, l.1 ≠ d)
    (hv : vrel G w t m x v []) (h : (Rd.set d true (.val t m x)).run c (some d) env K = some r) : ∃ F' env', K () env' = some r ∧ RelX B G F' [] env' (ts.set d v) w ∧ env'.length = env.length :=
  set_val (u := ⟨t, m, x⟩) (R.holdPlain (v := ⟨t, m, x⟩) hv) hc hg hl h

theorem castV_eq {t t' : Ty} {x : t.den} {y : t'.den} (h : castV t' x = some y) : ∃ e : t = t', e ▸ x = y := by
  unfold castV at h
  split at h
  · rename_i e
    simp only [Option.some.injEq] at h
    exact ⟨e, h⟩
  · cases h

variable {ρ : Type} {c : List GI} {K : Unit → Env → Option ρ} {r : ρ} {ty : TypeId} {pos : String} {after : Array Edge} {gd : Option (Nat × Bool)}

theorem OpRel.ref {o : Operand} {sl : Sl} {v : Value} {t : Ty} {x : t.den} (ho : OpRel G F env ts w o sl v) (he : sl.e = .ref t x) : slotRel G w env ts (.ref t x) v [] := by
  rcases ho.2 with hu | ho
  · rw [he] at hu; cases hu
  · cases hs : slotOf o with
    | some s =>
      rw [hs] at ho
      have := ho.2.2.2.2
      rw [he] at this
      exact ⟨rfl, this.2⟩
    | none =>
      rw [hs] at ho
      obtain ⟨t', m', x', he', _⟩ := ho
      rw [he] at he'
      cases he'

theorem op_move {x : Operand} {d : Nat} (R : RelX B G F [] env ts w) (hc : Cur env c) (hg : gOf c = true) (hl : ∀ l ∈ B.lents, l.1 ≠ d)
    (h : (opSem C c ⟨some d, .move x, ty, pos, after, gd⟩).run c (some d) env K = some r) : OpOut P B env ts w ⟨some d, .move x, ty, pos, after, gd⟩ K r := by
  have hex : (execOp (evalO ts) ⟨some d, .move x, ty, pos, after, gd⟩).run P w = .ok (.value (evalO ts x)) w := rfl
  simp only [opSem, Rd.run_bind'] at h
  obtain ⟨sl, h, ho⟩ := opnd_run R hc hg h
  have fin : (∃ F' env', K () env' = some r ∧ RelX B G F' [] env' (ts.set d (evalO ts x)) w ∧ env'.length = env.length) → OpOut P B env ts w ⟨some d, .move x, ty, pos, after, gd⟩ K r := by
    rintro ⟨F', env', h1, h2, h3⟩
    exact ⟨_, _, _, _, _, .inl hex, h1, h2, h3⟩
  have ho2 := ho.2
  split at h
  · -- a value in a slot
    rename_i t m x' s he hs
    rcases ho2 with hu | ho2
    · rw [hu] at he; cases he
    rw [hs] at ho2
    obtain ⟨hlt, hep, hwc, hent, hrel⟩ := ho2
    rw [he] at hrel hent
    split at h
    · rename_i hp
      have hm := plain_md hp
      subst hm
      have hf := rep_s_fp _ _ _ _ hrel.1
      exact fin (set_plain R hc hg hl (hf ▸ hrel) h)
    · rename_i hp
      rw [Rd.run_bind'] at h
      obtain ⟨t0, m0, x0, h0, _, h⟩ := root_run h
      refine fin (set_ref (e := .pref s sl.ep sl.wc []) R hc hg hl ?_ (fun _ _ => by simp) h)
      refine ⟨rfl, by rw [hep]; exact Nat.le_refl _, by rw [hwc]; exact Nat.le_refl _, fun _ => ?_⟩
      have hval : evalO ts x = ts.getD s undef := by cases x <;> simp only [slotOf] at hs <;> cases hs; rfl
      rcases hent with hent | ⟨g, hent, _⟩
      · refine ⟨t, m, x', ⟨t, m, x'⟩, hent, rfl, fun _ => ⟨unpack t (ts.getD s undef), ?_, ?_, .inl ⟨rfl, rfl⟩⟩⟩
        · rw [← hval]; exact hrel.2.symm
        · rw [← hval]; exact rep_len _ _ _ _ _ hrel.1
      · rw [h0] at hent; cases hent
  · rename_i t m x' he hs
    rcases ho2 with hu | ho2
    · rw [hu] at he; cases he
    rw [hs] at ho2
    obtain ⟨t', m', y', he', hrel⟩ := ho2
    rw [he] at he'
    cases he'
    exact fin (set_plain R hc hg hl hrel h)
  · rename_i q ep p he
    rcases ho2 with hu | ho2
    · rw [hu] at he; cases he
    have hrel : slotRel G w env ts (.addr q ep p) (evalO ts x) [] := by
      cases hs : slotOf x with
      | some s => rw [hs] at ho2; have := ho2.2.2.2.2; rw [he] at this; exact ⟨rfl, this.2⟩
      | none => rw [hs] at ho2; obtain ⟨t', m', x', he', _⟩ := ho2; rw [he] at he'; cases he'
    exact fin (set_ref R hc hg hl hrel (fun _ _ => by simp) h)
  · rename_i q ep wc p he
    rcases ho2 with hu | ho2
    · rw [hu] at he; cases he
    have hrel : slotRel G w env ts (.pref q ep wc p) (evalO ts x) [] := by
      cases hs : slotOf x with
      | some s => rw [hs] at ho2; have := ho2.2.2.2.2; rw [he] at this; exact ⟨rfl, this.2⟩
      | none => rw [hs] at ho2; obtain ⟨t', m', x', he', _⟩ := ho2; rw [he] at he'; cases he'
    exact fin (set_ref R hc hg hl hrel (fun _ _ => by simp) h)
  · rename_i t0 x0 he
    exact fin (set_ref R hc hg hl (ho.ref he) (fun _ _ => by simp) h)
  · -- a tuple
    rename_i es s he hs
    rcases ho2 with hu | ho2
    · rw [hu] at he; cases he
    rw [hs] at ho2
    obtain ⟨hlt, hep, hwc, hent, hrel⟩ := ho2
    rw [he] at hrel
    rw [Rd.run_bind'] at h
    obtain ⟨hcn, h⟩ := Rd.run_guard h
    have hcn := List.isEmpty_iff.1 hcn
    subst hcn
    rw [Rd.run_bind'] at h
    obtain ⟨_, h⟩ := Rd.run_moveU h
    have hval : evalO ts x = ts.getD s undef := by cases x <;> simp only [slotOf] at hs <;> cases hs; rfl
    have R1 := R.setSlot (d := s) (e := .undef) (c := ts.getD s undef) (f := []) hlt trivial List.Pairwise.nil (fun _ _ r hr => by simp at hr) (fun r hr => by simp at hr) (fun _ _ h => by cases h) (fun _ _ _ _ _ _ h => by cases h)
    rw [set_getD_self] at R1
    refine fin ?_
    by_cases hd : d < env.length
    · rcases Rd.run_set h with ⟨_, h⟩ | ⟨h, _⟩
      · refine ⟨_, _, h, R1.setSlot (d := d) (e := .tup es) (c := evalO ts x) (f := F s) (by rw [Env.length_put]; exact hd) hrel (R.nd s) (fun j hj => ?_) (fun r hr => R.ok s r hr) (fun _ _ h => by cases h) (fun _ _ _ _ _ _ h => by cases h), by rw [Env.length_put, Env.length_put]⟩
        by_cases hjs : j = s
        · subst hjs; rw [upd_same]; intro r _ q hq; simp at hq
        · rw [upd_other F _ hjs]; exact R.ap s j (Ne.symm hjs)
      · exact absurd rfl h
    · have e1 : ∀ e, (env.put ⟨s, true, .undef⟩).put ⟨d, true, e⟩ = env.put ⟨s, true, .undef⟩ := fun e => by
        have : (env.put ⟨s, true, .undef⟩).length ≤ d := by rw [Env.length_put]; exact Nat.le_of_not_lt hd
        generalize env.put ⟨s, true, .undef⟩ = env1 at this
        simp [Env.put, List.set_eq_of_length_le this]
      have e2 : ts.set d (evalO ts x) = ts := List.set_eq_of_length_le (by rw [← R.len]; exact Nat.le_of_not_lt hd)
      rw [e2]
      rcases Rd.run_set h with ⟨_, h⟩ | ⟨h, _⟩
      · rw [e1] at h
        exact ⟨_, _, h, R1, Env.length_put _ _⟩
      · exact absurd rfl h
  · simp at h

end
end Go.VL

namespace Go.VL

theorem getP_setP_ty : ∀ (p : List Step) (t : Ty) (m : Md) (x : t.den) (u v : TV) (n : Md × t.den), getP p t m x = some u → setP p t m x v = some n → v.t = u.t := by
  intro p
  induction p with
  | nil =>
    intro t m x u v n hg hs
    simp only [getP, Option.some.injEq] at hg
    subst hg
    simp only [setP, Option.map_eq_some_iff] at hs
    obtain ⟨y, hy, _⟩ := hs
    obtain ⟨e, _⟩ := castV_eq hy
    exact e
  | cons s p ih =>
    intro t m x u v n hg hs
    cases s <;> cases t <;> (try simp only [getP] at hg) <;> try (cases hg; done)
    case fst.pair => simp only [setP, Option.map_eq_some_iff] at hs; obtain ⟨q, hq, _⟩ := hs; exact ih _ _ _ _ _ _ hg hq
    case snd.pair => simp only [setP, Option.map_eq_some_iff] at hs; obtain ⟨q, hq, _⟩ := hs; exact ih _ _ _ _ _ _ hg hq
    case idx.list =>
      cases m <;> simp only [getP] at hg <;> simp only [setP] at hs <;> try cases hs
      simp only [Option.bind_eq_some_iff] at hs; obtain ⟨q, hq, _⟩ := hs; exact ih _ _ _ _ _ _ hg hq
    case idx.arr => simp only [setP, Option.bind_eq_some_iff] at hs; obtain ⟨q, hq, _⟩ := hs; exact ih _ _ _ _ _ _ hg hq
    case der.ptr =>
      cases m <;> simp only [getP] at hg <;> simp only [setP] at hs <;> try cases hs
      simp only [Option.map_eq_some_iff] at hs; obtain ⟨q, hq, _⟩ := hs; exact ih _ _ _ _ _ _ hg hq

/-- a path meets the same types whatever lies beside the addresses -/
theorem getP_noList : ∀ (p : List Step) (t : Ty) (m m' : Md) (x x' : t.den) (u : TV), t.hasList = false → getP p t m x = some u → ∃ u', getP p t m' x' = some u' ∧ u'.t = u.t := by
  intro p
  induction p with
  | nil => intro t m m' x x' u _ h; simp only [getP, Option.some.injEq] at h; subst h; exact ⟨_, rfl, rfl⟩
  | cons s p ih =>
    intro t m m' x x' u hl h
    cases s <;> cases t <;> (try simp only [getP] at h ⊢) <;> try (cases h; done)
    case fst.pair => simp only [Ty.hasList, Bool.or_eq_false_iff] at hl; exact ih _ _ _ _ _ _ hl.1 h
    case snd.pair => simp only [Ty.hasList, Bool.or_eq_false_iff] at hl; exact ih _ _ _ _ _ _ hl.2 h
    case idx.list => simp [Ty.hasList] at hl
    case idx.arr => exact ih _ _ _ _ _ _ hl h
    case der.ptr => simp [Ty.hasList] at hl

theorem getP_setP_ok : ∀ (p0 : List Step) (t : Ty) (m : Md) (x : t.den) (v : TV) (n : Md × t.den), setP p0 t m x v = some n → v.t.hasList = false →
    ∀ (p : List Step) (u : TV), getP p t m x = some u → ∃ u', getP p t n.1 n.2 = some u' ∧ u'.t = u.t := by
  intro p0
  induction p0 with
  | nil =>
    intro t m x v n hs hl p u hg
    simp only [setP, Option.map_eq_some_iff] at hs
    obtain ⟨y, hy, rfl⟩ := hs
    obtain ⟨e, _⟩ := castV_eq hy
    exact getP_noList p t m _ x _ u (e ▸ hl) hg
  | cons s p0 ih =>
    intro t m x v n hs hl p u hg
    -- a path's first step: into the turned part, or beside it
    cases p with
    | nil => simp only [getP, Option.some.injEq] at hg; subst hg; exact ⟨_, rfl, rfl⟩
    | cons s' p =>
      cases s <;> cases t <;> (try simp only [setP] at hs) <;> try (cases hs; done)
      case fst.pair a b =>
        simp only [Option.map_eq_some_iff] at hs
        obtain ⟨q, hq, rfl⟩ := hs
        cases s' <;> simp only [getP] at hg ⊢ <;> try cases hg
        · simp only [Md.mk_l]; exact ih _ _ _ _ _ hq hl p u hg
        · simp only [Md.mk_r]; exact ⟨u, hg, rfl⟩
      case snd.pair a b =>
        simp only [Option.map_eq_some_iff] at hs
        obtain ⟨q, hq, rfl⟩ := hs
        cases s' <;> simp only [getP] at hg ⊢ <;> try cases hg
        · simp only [Md.mk_l]; exact ⟨u, hg, rfl⟩
        · simp only [Md.mk_r]; exact ih _ _ _ _ _ hq hl p u hg
      case idx.list i a =>
        cases m <;> simp only [setP] at hs <;> try cases hs
        rename_i m
        simp only [Option.bind_eq_some_iff] at hs
        obtain ⟨q, hq, hs⟩ := hs
        split at hs <;> try cases hs
        rename_i hm
        cases s' <;> simp only [getP] at hg ⊢ <;> try cases hg
        rename_i j
        by_cases hij : i.toNat = j.toNat
        · rw [← hij] at hg ⊢
          by_cases hk : i.toNat < x.length
          · have e : (x.set i.toNat q.2).getD i.toNat a.zero = q.2 := by simp [List.getD, hk]
            rw [e, ← hm]
            exact ih _ _ _ _ _ hq hl p u hg
          · have e : (x.set i.toNat q.2) = x := List.set_eq_of_length_le (Nat.le_of_not_lt hk)
            rw [e]; exact ⟨u, hg, rfl⟩
        · have e : (x.set i.toNat q.2).getD j.toNat a.zero = x.getD j.toNat a.zero := by simp [List.getD, List.getElem?_set_ne hij]
          rw [e]; exact ⟨u, hg, rfl⟩
      case idx.arr i n a =>
        simp only [Option.bind_eq_some_iff] at hs
        obtain ⟨q, hq, hs⟩ := hs
        split at hs <;> try cases hs
        rename_i hm
        cases s' <;> simp only [getP] at hg ⊢ <;> try cases hg
        rename_i j
        by_cases hij : i.toNat = j.toNat
        · rw [← hij] at hg ⊢
          by_cases hk : i.toNat < x.length
          · have e : (x.set i.toNat q.2).getD i.toNat a.zero = q.2 := by simp [List.getD, hk]
            rw [e, ← hm]
            exact ih _ _ _ _ _ hq hl p u hg
          · have e : (x.set i.toNat q.2) = x := List.set_eq_of_length_le (Nat.le_of_not_lt hk)
            rw [e]; exact ⟨u, hg, rfl⟩
        · have e : (x.set i.toNat q.2).getD j.toNat a.zero = x.getD j.toNat a.zero := by simp [List.getD, List.getElem?_set_ne hij]
          rw [e]; exact ⟨u, hg, rfl⟩
      case der.ptr a =>
        cases m <;> simp only [setP] at hs <;> try cases hs
        simp only [Option.map_eq_some_iff] at hs
        obtain ⟨q, hq, rfl⟩ := hs
        cases s' <;> simp only [getP] at hg ⊢ <;> try cases hg
        simp only [Option.getD_some]
        exact ih _ _ _ _ _ hq hl p u hg

section
variable {P : Program} {C : Ctx} {B : Base} {G : Nat → Prop} {F : Nat → List Res} {H : List (TV × Value)} {env : Env} {ts : List Value} {w : World}
variable {ρ : Type} {c : List GI} {K : Unit → Env → Option ρ} {r : ρ} {ty : TypeId} {pos : String} {after : Array Edge} {gd : Option (Nat × Bool)}

/-- a held value is stored at a place -/
theorem putPlace_run {u : TV} {v : Value} {q ep : Nat} {p : List Step} {vp : Value} {d : Option Nat} {al : Bool} {T : TypeId} (R : RelX B G F (H ++ [(u, v)]) env ts w)
    (hrel : slotRel G w env ts (.addr q ep p) vp []) (hT : TyF P C T u.t) (h : (putPlace q ep p u al).run c d env K = some r) :
    c = [] ∧ ∃ b o, vp = .pointer (some ⟨b, o, none⟩) ∧ ∃ w', (storeVar T ⟨b, o, none⟩ v).run P w = .ok () w' ∧
      ∃ F' env', K () env' = some r ∧ RelX B G F' H env' ts w' ∧ env'.length = env.length := by
  simp only [putPlace, Rd.run_bind'] at h
  obtain ⟨t, m, x, h1, h2, h⟩ := root_run h
  obtain ⟨n, hset, h⟩ := Rd.run_opt h
  obtain ⟨hcn, h⟩ := Rd.run_move (by simp) h
  refine ⟨hcn, ?_⟩
  obtain ⟨_, _, hrel⟩ := hrel
  obtain ⟨t', m', x', u0, ad, hr', hu, hw, hvp⟩ := hrel h2
  rw [h1] at hr'
  cases hr'
  obtain ⟨hlt, hroot⟩ := R.rootVal h1
  have hut := getP_setP_ty _ _ _ _ _ _ _ hu hset
  obtain ⟨b, o, c1, f, pre, post, rfl, hc1, hr1, hF, hsp, hin, hupd⟩ := lensV p t m x _ _ u0 u ad n hroot.1 (R.nd q) (fun r hr => (R.ok q r hr).1) hu hw hut hset
  have hv : vrel G w u.t u.m u.x v (F (env.length + H.length)) := R.held H.length (u, v) (by simp)
  have hlv := rep_len _ _ _ _ _ hv.1
  obtain ⟨w', hst, htn, hcn'⟩ := run_storeVar hT (cs := unpack u.t v) hlv (rep_one _ _ _ _ _ hv.1) (by rw [hut]; exact hsp)
  rw [hv.2] at hst
  refine ⟨b, o, hvp, w', hst, ?_⟩
  obtain ⟨rb, hrb, hrb1, hrb2, hrb3⟩ := hin
  have hrbF : rb ∈ F q := by rw [hF]; simp at hrb ⊢; rcases hrb with h | h <;> simp [h]
  have hXG : ∀ b' i, rng b o u.t.sz b' i → ¬ G b' := fun b' i hx => by rw [hx.1, ← hrb1]; exact (R.ok q rb hrbF).1
  have hXF : ∀ b' i, rng b o u.t.sz b' i → ∀ j, j ≠ q → ¬ blks (F j) b' := fun b' i hx j hj ⟨z, hz, hze⟩ => R.ap q j (Ne.symm hj) rb hrbF z hz (by rw [hrb1, hze, hx.1])
  have hX0 : ∀ b' i, b' < B.w0.heap.size → rng b o u.t.sz b' i → B.X0 b' i := fun b' i hb hx => by
    obtain ⟨e1, e2, e3⟩ := hx
    rcases (R.ok q rb hrbF).2.2 with h | ⟨z, hz, z1, z2, z3⟩
    · omega
    · exact ⟨z, hz, by omega, by omega, by rw [hut] at e3; omega⟩
  have hkq : env.length + H.length ≠ q := by omega
  -- what is held stays while the place is written
  have hvk : vrel G w' u.t u.m u.x v (F (env.length + H.length)) := vrel_frame htn.toSame (fun _ h => h) hXG (fun z hz i hx => hXF _ _ hx _ hkq ⟨z, hz, rfl⟩) hv
  have hnew := hupd G w' (unpack u.t v) (F (env.length + H.length)) (fun _ h => h) (htn.toSame.mono (fun b' i hx => .inl (by rw [← hut]; exact hx))) hcn' hvk.1
  have ndF := R.nd q
  rw [hF] at ndF
  obtain ⟨ndp, nd2, nd3⟩ := ND.append.1 ndF
  obtain ⟨ndf, ndq, nd4⟩ := ND.append.1 nd2
  have hsub : ∀ z ∈ pre ++ post, z ∈ F q := fun z hz => by rw [hF]; simp at hz ⊢; rcases hz with h | h <;> simp [h]
  have apk : Apart (F (env.length + H.length)) (pre ++ post) := fun a ha z hz => R.ap _ q hkq a ha z (hsub z hz)
  have hf'mem : ∀ z ∈ pre ++ (F (env.length + H.length) ++ post), z ∈ pre ++ post ∨ z ∈ F (env.length + H.length) := fun z hz => by
    simp at hz ⊢
    rcases hz with h | h | h <;> simp [h]
  have R1 := R.dropHeld.setRoot (G' := G) (r := q) (m2 := n.1) (x2 := n.2) (f' := pre ++ (F (env.length + H.length) ++ post)) (w' := w') (X := rng b o u.t.sz) (b := al || u.t.hasList) h1 (fun _ h => h)
    (fun b' hb j hj ⟨z, hz, e⟩ => by
      unfold upd at hz
      split at hz
      · simp at hz
      · exact (R.ok j z hz).1 (e ▸ hb))
    (fun b' hb => ⟨Nat.lt_of_lt_of_le (R.gl b' hb).1 htn.size, (R.gl b' hb).2⟩) htn hXG
    (fun b' i hx j hj ⟨z, hz, e⟩ => by
      unfold upd at hz
      split at hz
      · simp at hz
      · exact hXF b' i hx j hj ⟨z, hz, e⟩) hX0 ⟨hnew, hroot.2⟩
    (ND.append.2 ⟨ndp, ND.append.2 ⟨R.nd _, ndq, fun a ha z hz => apk a ha z (by simp [hz])⟩, fun a ha z hz => by
      rcases List.mem_append.1 hz with hz | hz
      · exact (apk z hz a (by simp [ha])).symm
      · exact nd3 a ha z (by simp [hz])⟩)
    (fun j hj a ha z hz => by
      unfold upd at hz
      split at hz
      · simp at hz
      · rename_i hjk
        rcases hf'mem a ha with h | h
        · exact R.ap q j (Ne.symm hj) a (hsub a h) z hz
        · exact R.ap _ j (Ne.symm hjk) a h z hz)
    (fun z hz => by
      rcases hf'mem z hz with h | h
      · exact ⟨(R.ok q z (hsub z h)).1, Nat.lt_of_lt_of_le (R.ok q z (hsub z h)).2.1 htn.size, (R.ok q z (hsub z h)).2.2⟩
      · exact ⟨(R.ok _ z h).1, Nat.lt_of_lt_of_le (R.ok _ z h).2.1 htn.size, (R.ok _ z h).2.2⟩)
    (fun hb => by
      simp only [Bool.or_eq_false_iff] at hb
      refine ⟨fun a va hva hx => ?_, getP_setP_ok p t m x u n hset hb.2⟩
      obtain ⟨e1, e2, e3⟩ := hx
      have hlen : c1.length = u.t.sz := by rw [hut, rep_len _ _ _ _ _ hr1]
      have hj : a.off - o < c1.length := by omega
      have hcell := hc1 (a.off - o) c1[a.off - o] (List.getElem?_eq_getElem hj)
      rw [add_mk, show o + (a.off - o) = a.off by omega] at hcell
      have hspot : a.spot = none := by
        cases hsp' : a.spot with
        | none => rfl
        | some _ => simp [World.cell?, hsp'] at hva; split at hva <;> simp at hva
      have hae : a = ⟨b, a.off, none⟩ := by cases a; simp_all
      rw [hae, hcell] at hva
      cases hva
      exact rep_notAddr _ _ _ _ _ (by rw [← hut]; exact hb.2) hr1 _ (List.getElem_mem hj))
  exact ⟨_, _, h, R1, Env.length_put _ _⟩

end
end Go.VL

namespace Go.VL
section
variable {P : Program} {C : Ctx} {B : Base} {G : Nat → Prop} {F : Nat → List Res} {H : List (TV × Value)} {env : Env} {ts : List Value} {w : World}
variable {ρ : Type} {c : List GI} {K : Unit → Env → Option ρ} {r : ρ} {ty : TypeId} {pos : String} {after : Array Edge} {gd : Option (Nat × Bool)}

theorem op_assign {x : Operand} {d : Nat} (R : RelX B G F [] env ts w) (hc : Cur env c) (hg : gOf c = true) (hl : ∀ l ∈ B.lents, l.1 ≠ d)
    (h : (opSem C c ⟨some d, .assign x, ty, pos, after, gd⟩).run c (some d) env K = some r) : OpOut P B env ts w ⟨some d, .assign x, ty, pos, after, gd⟩ K r := by
  have hex : (execOp (evalO ts) ⟨some d, .assign x, ty, pos, after, gd⟩).run P w = .ok (.value (evalO ts x)) w := rfl
  simp only [opSem, Rd.run_bind'] at h
  obtain ⟨sl, h, ho⟩ := opnd_run R hc hg h
  have tk : ∀ (_ : (take x sl.e).run c (some d) env (fun v env' => (Rd.set d true (.val v.t v.m v.x)).run c (some d) env' K) = some r), OpOut P B env ts w ⟨some d, .assign x, ty, pos, after, gd⟩ K r := by
    intro h
    obtain ⟨u, F1, env1, h, R1, hlen, hce⟩ := take_run R ho h
    obtain ⟨F2, env2, h1, R2, h3⟩ := set_val R1 (hc.moved hce) hg hl h
    exact ⟨_, _, _, _, _, .inl hex, h1, R2, h3.trans hlen⟩
  cases he : sl.e with
  | addr q ep p =>
    simp only [he] at h
    rcases ho.2 with hu | ho2
    · rw [hu] at he; cases he
    have hrel : slotRel G w env ts (.addr q ep p) (evalO ts x) [] := by
      cases hs : slotOf x with
      | some s => rw [hs] at ho2; have := ho2.2.2.2.2; rw [he] at this; exact ⟨rfl, this.2⟩
      | none => rw [hs] at ho2; obtain ⟨t', m', x', he', _⟩ := ho2; rw [he] at he'; cases he'
    obtain ⟨F', env', h1, h2, h3⟩ := set_ref R hc hg hl hrel (fun _ _ => by simp) h
    exact ⟨_, _, _, _, _, .inl hex, h1, h2, h3⟩
  | ref t0 x0 =>
    simp only [he] at h
    obtain ⟨F', env', h1, h2, h3⟩ := set_ref R hc hg hl (ho.ref he) (fun _ _ => by simp) h
    exact ⟨_, _, _, _, _, .inl hex, h1, h2, h3⟩
  | undef => simp only [he, Rd.run_bind'] at h; exact tk (by rw [he]; exact h)
  | nq _ _ => simp only [he, Rd.run_bind'] at h; exact tk (by rw [he]; exact h)
  | val _ _ _ => simp only [he, Rd.run_bind'] at h; exact tk (by rw [he]; exact h)
  | pref _ _ _ _ => simp only [he, Rd.run_bind'] at h; exact tk (by rw [he]; exact h)
  | tup _ => simp only [he, Rd.run_bind'] at h; exact tk (by rw [he]; exact h)
  | g _ _ => simp only [he, Rd.run_bind'] at h; exact tk (by rw [he]; exact h)

theorem opnd_weak {cc c' : List GI} {d : Option Nat} {ty : Option Ty} {o : Operand} {K : Sl → Env → Option ρ} (h : (opnd c' ty o).run cc d env K = some r) : ∃ sl, K sl env = some r := by
  cases o with
  | tmp s =>
    simp only [opnd, Rd.run_bind', Rd.run_slot, useE] at h
    split at h
    · rw [Rd.run_bind'] at h
      obtain ⟨_, h⟩ := Rd.run_guard h
      exact ⟨_, h⟩
    · exact ⟨_, h⟩
  | const v =>
    simp only [opnd] at h
    obtain ⟨sl, hsl, h⟩ := Rd.run_opt h
    exact ⟨sl, h⟩
  | func f => exact ⟨_, h⟩
  | global g => simp [opnd] at h

theorem plainV_weak {cc : List GI} {d : Option Nat} {e : Entry} {K : TV → Env → Option ρ} (h : (plainV e).run cc d env K = some r) : ∃ v, K v env = some r := by
  simp only [plainV, Rd.run_bind'] at h
  cases e with
  | val t m x =>
    simp only [peek, Rd.run_ret] at h
    obtain ⟨_, h⟩ := Rd.run_guard h
    exact ⟨_, h⟩
  | pref q ep wc p =>
    simp only [peek, Rd.run_bind'] at h
    obtain ⟨t, m, x, _, _, h⟩ := root_run h
    obtain ⟨u, _, h⟩ := Rd.run_opt h
    obtain ⟨_, h⟩ := Rd.run_guard h
    simp only [Rd.run_pure] at h
    obtain ⟨_, h⟩ := Rd.run_guard h
    exact ⟨_, h⟩
  | _ => simp [peek] at h

theorem op_pick {cc a b : Operand} {d : Nat} (R : RelX B G F [] env ts w) (hc : Cur env c) (hg : gOf c = true) (hl : ∀ l ∈ B.lents, l.1 ≠ d)
    (h : (opSem C c ⟨some d, .pick cc a b, ty, pos, after, gd⟩).run c (some d) env K = some r) : OpOut P B env ts w ⟨some d, .pick cc a b, ty, pos, after, gd⟩ K r := by
  simp only [opSem, Rd.run_bind'] at h
  obtain ⟨sc, h, hoc⟩ := opnd_run R hc hg h
  split at h
  case h_2 => simp at h
  rename_i m x hsc
  rw [Rd.run_bind'] at h
  obtain ⟨hm, h⟩ := Rd.run_guard h
  have hm := plain_md hm
  subst hm
  simp only [Rd.run_bind'] at h
  -- the condition's value
  have hcv : evalO ts cc = .bool x := by
    rcases hoc.2 with hu | ho2
    · rw [hu] at hsc; cases hsc
    cases hs : slotOf cc with
    | some s =>
      rw [hs] at ho2
      have := ho2.2.2.2.2
      rw [hsc] at this
      have h1 := this.1.1
      simp only [unpack, Ty.agg, if_false, Bool.false_eq_true, List.cons.injEq, and_true] at h1
      exact h1
    | none =>
      rw [hs] at ho2
      obtain ⟨t', m', x', he', hrel⟩ := ho2
      rw [hsc] at he'
      cases he'
      have h1 := hrel.1.1
      simp only [unpack, Ty.agg, if_false, Bool.false_eq_true, List.cons.injEq, and_true] at h1
      exact h1
  have hex : (execOp (evalO ts) ⟨some d, .pick cc a b, ty, pos, after, gd⟩).run P w = .ok (.value (if x then evalO ts a else evalO ts b)) w := by
    simp only [execOp, hcv, asBool]
    rfl
  -- the chain under which the arm is taken
  have chain : ∀ (wt : Bool), x = wt → Cur env (match slotOf cc with | some s => ⟨s, sc.ep, wt, x⟩ :: c | none => c) ∧ gOf (match slotOf cc with | some s => ⟨s, sc.ep, wt, x⟩ :: c | none => c) = true := by
    intro wt hx
    cases hs : slotOf cc with
    | none => exact ⟨hc, hg⟩
    | some s =>
      rcases hoc.2 with hu | ho2
      · rw [hu] at hsc; cases hsc
      rw [hs] at ho2
      obtain ⟨_, hep, _, hent, _⟩ := ho2
      rw [hsc] at hent
      constructor
      · intro z hz
        rcases List.mem_cons.1 hz with rfl | hz
        · refine ⟨hep.symm, ?_⟩
          rcases hent with hent | ⟨g, hent, _⟩ <;> rw [hent] <;> rfl
        · exact hc z hz
      · rw [gOf_iff] at hg ⊢
        intro z hz
        rcases List.mem_cons.1 hz with rfl | hz
        · subst hx; cases x <;> rfl
        · exact hg z hz
  have fin : ∀ {t : Ty} {y : t.den}, vrel G w t .s y (if x then evalO ts a else evalO ts b) [] → (Rd.set d true (.val t .s y)).run c (some d) env K = some r →
      OpOut P B env ts w ⟨some d, .pick cc a b, ty, pos, after, gd⟩ K r := by
    intro t y hv h
    obtain ⟨F', env', h1, h2, h3⟩ := set_plain R hc hg hl hv h
    exact ⟨_, _, _, _, _, .inl hex, h1, h2, h3⟩
  cases x with
  | true =>
    obtain ⟨hc1, hg1⟩ := chain true rfl
    obtain ⟨sa, h, hoa⟩ := opnd_run R hc1 hg1 h
    obtain ⟨sb, h⟩ := opnd_weak h
    obtain ⟨t, y, h, hva⟩ := plainV_run R hoa h
    obtain ⟨vb, h⟩ := plainV_weak h
    obtain ⟨z, _, h⟩ := Rd.run_opt h
    exact fin hva h
  | false =>
    obtain ⟨hc1, hg1⟩ := chain false rfl
    obtain ⟨sa, h⟩ := opnd_weak h
    obtain ⟨sb, h, hob⟩ := opnd_run R hc1 hg1 h
    obtain ⟨va, h⟩ := plainV_weak h
    obtain ⟨t, y, h, hvb⟩ := plainV_run R hob h
    obtain ⟨z, hz, h⟩ := Rd.run_opt h
    obtain ⟨e, rfl⟩ := castV_eq hz
    obtain ⟨ta, ma, xa⟩ := va
    simp only at e
    subst e
    exact fin hvb h

/-- a held value goes into a new block -/
theorem RelX.allocPtr {u : TV} {v : Value} (R : RelX B G F (H ++ [(u, v)]) env ts w) (T : TypeId) :
    ∃ F', RelX B G F' (H ++ [(⟨.ptr u.t, .o u.m, some u.x⟩, .pointer (some ⟨w.heap.size, 0, none⟩))]) env ts (w.alloc (.cells v.cells T)) := by
  have hv : vrel G w u.t u.m u.x v (F (env.length + H.length)) := R.held H.length (u, v) (by simp)
  have hl := rep_len _ _ _ _ _ hv.1
  have hcells : v.cells.toList = unpack u.t v := by
    have := pack_cells hl (rep_one _ _ _ _ _ hv.1)
    rw [hv.2] at this
    exact this
  have ht := alloc_turn w (.cells v.cells T)
  have R1 := R.dropHeld.world ht (fun _ _ h => h.elim) (fun _ _ h => h.elim) (fun _ _ _ h => h.elim)
  have hv' : vrel G (w.alloc (.cells v.cells T)) u.t u.m u.x v (F (env.length + H.length)) := vrel_frame ht.toSame (fun _ h => h) (fun _ _ h => h.elim) (fun _ _ _ h => h) hv
  have hsz : v.cells.size = u.t.sz := by rw [← hl, ← hcells]; simp
  have hfl : ∀ r ∈ F (env.length + H.length), r.blk < w.heap.size := fun r hr => (R.ok _ r hr).2.1
  refine ⟨_, R1.hold (v := ⟨.ptr u.t, .o u.m, some u.x⟩) (f := ⟨w.heap.size, 0, 0 + u.t.sz⟩ :: F (env.length + H.length)) ?_ ?_ (fun j => ?_) (fun r hr => ?_)⟩
  · refine ⟨⟨u.x, w.heap.size, 0, unpack u.t v, F (env.length + H.length), rfl, rfl, rfl, ?_, ?_, hv'.1⟩, rfl⟩
    · exact ⟨v.cells, T, by show (w.heap.push _)[w.heap.size]? = _; simp, by omega⟩
    · intro j x hj
      rw [add_mk, Nat.zero_add, World.cell?_alloc_new]
      rw [← hcells] at hj
      simpa using hj
  · refine List.pairwise_cons.2 ⟨fun r hr => ?_, R.nd _⟩
    have := hfl r hr
    simp only [ne_eq]
    omega
  · intro r hr q hq
    unfold upd at hq
    split at hq
    · simp at hq
    · rename_i hj
      rcases List.mem_cons.1 hr with rfl | hr
      · have := (R.ok j q hq).2.1
        simp only [ne_eq]
        omega
      · exact R.ap _ j (Ne.symm hj) r hr q hq
  · rcases List.mem_cons.1 hr with rfl | hr
    · refine ⟨fun hb => ?_, by simp, .inl R.turn.size⟩
      have := (R.gl _ hb).1
      simp at this
    · exact ⟨(R.ok _ r hr).1, Nat.lt_of_lt_of_le (R.ok _ r hr).2.1 ht.size, (R.ok _ r hr).2.2⟩

theorem op_alloc {T : TypeId} {d : Nat} (hT : TysOk P C) (R : RelX B G F [] env ts w) (hc : Cur env c) (hg : gOf c = true) (hl : ∀ l ∈ B.lents, l.1 ≠ d)
    (h : (opSem C c ⟨some d, .alloc T, ty, pos, after, gd⟩).run c (some d) env K = some r) : OpOut P B env ts w ⟨some d, .alloc T, ty, pos, after, gd⟩ K r := by
  simp only [opSem, Rd.run_bind'] at h
  obtain ⟨t, ht, h⟩ := Rd.run_opt h
  obtain ⟨zs, hz, hzz⟩ := (tyF (hT _ _ ht)).zero
  have hrep : vrel G w t (zmd t) t.zero (pack t zs) [] := vrel_pack (isZ_rep t zs hzz)
  obtain ⟨F1, R1⟩ := (R.holdPlain (v := ⟨t, zmd t, t.zero⟩) hrep).allocPtr (H := []) T
  obtain ⟨F', env', h1, h2, h3⟩ := set_val (u := ⟨.ptr t, .o (zmd t), some t.zero⟩) R1 hc hg hl h
  refine ⟨_, _, _, _, _, .inl ?_, h1, h2, h3⟩
  simp only [execOp, Instr.alloc, Sem.run_bind, hz, Result.andThen_ok, newVar, newRow, run_newObj, World.alloc_eq, Sem.run_pure]

theorem op_box {T : TypeId} {x : Operand} {d : Nat} (R : RelX B G F [] env ts w) (hc : Cur env c) (hg : gOf c = true) (hl : ∀ l ∈ B.lents, l.1 ≠ d)
    (h : (opSem C c ⟨some d, .box T x, ty, pos, after, gd⟩).run c (some d) env K = some r) : OpOut P B env ts w ⟨some d, .box T x, ty, pos, after, gd⟩ K r := by
  simp only [opSem, Rd.run_bind'] at h
  obtain ⟨t, ht, h⟩ := Rd.run_opt h
  obtain ⟨sl, h, ho⟩ := opnd_run R hc hg h
  obtain ⟨u, F1, env1, h, R1, hlen, hce⟩ := take_run R ho h
  obtain ⟨y, hy, h⟩ := Rd.run_opt h
  obtain ⟨ut, um, ux⟩ := u
  obtain ⟨e, rfl⟩ := castV_eq hy
  simp only at e
  subst e
  obtain ⟨F2, R2⟩ := RelX.allocPtr (H := []) R1 T
  obtain ⟨F', env', h1, h2, h3⟩ := set_val R2 (hc.moved hce) hg hl h
  refine ⟨_, _, _, _, _, .inl ?_, h1, h2, h3.trans hlen⟩
  simp only [execOp, Instr.box, Sem.run_bind, newVar, newRow, run_newObj, World.alloc_eq, Sem.run_pure, Result.andThen_ok]

/-- a place is read -/
theorem place_rel {q ep : Nat} {p : List Step} {vp : Value} {t : Ty} {m : Md} {x : t.den} {u : TV} (R : RelX B G F H env ts w) (hrel : slotRel G w env ts (.addr q ep p) vp [])
    (h1 : (env.get q).e = .val t m x) (h2 : (env.get q).ep = ep) (hu : getP p t m x = some u) :
    ∃ ad c1 f, vp = .pointer (some ad) ∧ walkV w p t (unpack t (ts.getD q undef)) = some ad ∧ cellsAt w ad c1 ∧ rep G w u.t u.m u.x c1 f := by
  obtain ⟨_, _, hrel⟩ := hrel
  obtain ⟨t', m', x', u', ad, hr', hu', hw, hvp⟩ := hrel h2
  rw [h1] at hr'
  cases hr'
  rw [hu] at hu'
  cases hu'
  obtain ⟨_, hroot⟩ := R.rootVal h1
  obtain ⟨c1, f, hc1, hr1, _⟩ := readV p t m x _ _ u ad hroot.1 hu hw
  exact ⟨ad, c1, f, hvp, hw, hc1, hr1⟩

theorem op_load {T : TypeId} {x : Operand} {d : Nat} (hT : TysOk P C) (R : RelX B G F [] env ts w) (hc : Cur env c) (hg : gOf c = true) (hl : ∀ l ∈ B.lents, l.1 ≠ d)
    (h : (opSem C c ⟨some d, .load T x, ty, pos, after, gd⟩).run c (some d) env K = some r) : OpOut P B env ts w ⟨some d, .load T x, ty, pos, after, gd⟩ K r := by
  simp only [opSem, Rd.run_bind'] at h
  obtain ⟨t, ht, h⟩ := Rd.run_opt h
  obtain ⟨sl, h, ho⟩ := opnd_run R hc hg h
  split at h
  · rename_i t0 x0 he
    obtain ⟨_, ad, cs, hv, hG, hcc, hrep⟩ := ho.ref he
    rw [Rd.run_bind'] at h
    obtain ⟨y, hy, h⟩ := Rd.run_opt h
    obtain ⟨e, rfl⟩ := castV_eq hy
    subst e
    obtain ⟨F', env', g1, g2, g3⟩ := set_plain R hc hg hl (vrel_pack hrep) h
    refine ⟨_, _, _, _, _, .inl ?_, g1, g2, g3⟩
    simp only [execOp, hv, Instr.loadAt, Instr.sureAddr, Sem.run_bind, Sem.run_pure, Result.andThen_ok]
    rw [run_loadVar (tyF (hT _ _ ht)) (rep_len _ _ _ _ _ hrep) hcc]
    rfl
  rw [Rd.run_bind'] at h
  obtain ⟨q, ep, p, h, hrel⟩ := asPlace_run hg R ho h
  rw [Rd.run_bind'] at h
  obtain ⟨t0, m0, x0, h1, h2, h⟩ := root_run h
  rw [Rd.run_bind'] at h
  obtain ⟨u, hu, h⟩ := Rd.run_opt h
  rw [Rd.run_bind'] at h
  obtain ⟨_, h⟩ := Rd.run_guard h
  obtain ⟨ad, c1, f, hvp, hw, hc1, hr1⟩ := place_rel R hrel h1 h2 hu
  have hex : u.t = t → (execOp (evalO ts) ⟨some d, .load T x, ty, pos, after, gd⟩).run P w = .ok (.value (pack t c1)) w := fun e => by
    simp only [execOp, hvp, Instr.loadAt, Instr.sureAddr, Sem.run_bind, Sem.run_pure, Result.andThen_ok]
    rw [run_loadVar (tyF (hT _ _ ht)) (by rw [rep_len _ _ _ _ _ hr1, e]) hc1]
    rfl
  obtain ⟨ut, um, ux⟩ := u
  split at h
  · rename_i hp
    have hm := plain_md hp
    simp only at hm
    subst hm
    rw [Rd.run_bind'] at h
    obtain ⟨y, hy, h⟩ := Rd.run_opt h
    obtain ⟨e, rfl⟩ := castV_eq hy
    simp only at e
    subst e
    have hf := rep_s_fp _ _ _ _ hr1
    subst hf
    obtain ⟨F', env', g1, g2, g3⟩ := set_plain R hc hg hl (vrel_pack hr1) h
    exact ⟨_, _, _, _, _, .inl (hex rfl), g1, g2, g3⟩
  · rw [Rd.run_bind'] at h
    obtain ⟨e, hk⟩ := Rd.run_guard h
    simp only [decide_eq_true_eq] at e
    subst e
    have hle : ep ≤ (env.get q).ep := hrel.2.1
    obtain ⟨F', env', g1, g2, g3⟩ := set_ref (e := .pref q ep (env.get q).wc p) (v := pack ut c1) R hc hg hl
      ⟨rfl, hle, Nat.le_refl _, fun _ => ⟨t0, m0, x0, _, h1, hu, fun _ => ⟨c1, rfl, rep_len _ _ _ _ _ hr1, .inr ⟨ad, hw, hc1⟩⟩⟩⟩ (fun _ _ => by simp) hk
    exact ⟨_, _, _, _, _, .inl (hex rfl), g1, g2, g3⟩

theorem Cur.nil {env : Env} : Cur env [] := fun b hb => by simp at hb

theorem op_store {T : TypeId} {x y : Operand} (hT : TysOk P C) (R : RelX B G F [] env ts w) (hc : Cur env c) (hg : gOf c = true)
    (h : (opSem C c ⟨none, .store T x y, ty, pos, after, gd⟩).run c none env K = some r) : OpOut P B env ts w ⟨none, .store T x y, ty, pos, after, gd⟩ K r := by
  simp only [opSem, Rd.run_bind'] at h
  obtain ⟨t, ht, h⟩ := Rd.run_opt h
  obtain ⟨sy, h, hoy⟩ := opnd_run R hc hg h
  obtain ⟨u, F1, env1, h, R1, hlen, hce⟩ := take_run R hoy h
  have hc1 := hc.moved hce
  obtain ⟨sx, h, hox⟩ := opnd_run R1 hc1 hg h
  obtain ⟨q, ep, p, h, hrel⟩ := asPlace_run hg R1 hox h
  obtain ⟨e, hk⟩ := Rd.run_guard h
  simp only [decide_eq_true_eq] at e
  subst e
  obtain ⟨hcn, b, o, hvp, w', hst, F', env', g1, g2, g3⟩ := putPlace_run (H := []) R1 hrel (tyF (hT _ _ ht)) hk
  refine ⟨undef, w', _, F', env', .inr ⟨?_, rfl⟩, g1, g2, g3.trans hlen⟩
  simp only [execOp, hvp, Instr.storeAt, Instr.sureAddr, Sem.run_bind, Sem.run_pure, Result.andThen_ok, hst]

theorem op_nilCheck {x : Operand} {d : Nat} (R : RelX B G F [] env ts w) (hc : Cur env c) (hg : gOf c = true) (hl : ∀ l ∈ B.lents, l.1 ≠ d)
    (h : (opSem C c ⟨some d, .nilCheck x, ty, pos, after, gd⟩).run c (some d) env K = some r) : OpOut P B env ts w ⟨some d, .nilCheck x, ty, pos, after, gd⟩ K r := by
  simp only [opSem, Rd.run_bind'] at h
  obtain ⟨sl, h, ho⟩ := opnd_run R hc hg h
  split at h
  · rename_i t0 x0 he
    obtain ⟨F', env', g1, g2, g3⟩ := set_ref R hc hg hl (ho.ref he) (fun _ _ => by simp) h
    obtain ⟨_, ad, cs, hv, _⟩ := ho.ref he
    refine ⟨_, _, _, _, _, .inl ?_, g1, g2, g3⟩
    simp only [execOp, hv]
    rfl
  rw [Rd.run_bind'] at h
  obtain ⟨q, ep, p, h, hrel⟩ := asPlace_run hg R ho h
  rw [Rd.run_bind'] at h
  obtain ⟨t0, m0, x0, h1, h2, h⟩ := root_run h
  obtain ⟨F', env', g1, g2, g3⟩ := set_ref R hc hg hl hrel (fun _ _ => by simp) h
  obtain ⟨_, _, _, _, ad, _, _, _, hvp⟩ := hrel.2.2 h2
  refine ⟨_, _, _, _, _, .inl ?_, g1, g2, g3⟩
  simp only [execOp, hvp]
  rfl

theorem fields_at {ty : TypeId → Option Ty} : ∀ (f : Nat) (fs : List Field) (off : Nat) (t : Ty) (m : Md) (x : t.den) (u : TV), fieldsChk ty fs off t = true → getP (stepsOf f) t m x = some u →
    ∃ fl, fs[f]? = some fl ∧ fl.offset = off + offOf f t ∧ ty fl.type = some u.t ∧ u.t.sz ≠ 0 := by
  intro f
  induction f with
  | zero =>
    intro fs off t m x u hf hg
    cases t <;> simp only [stepsOf, getP] at hg <;> try (cases hg; done)
    cases fs with
    | nil => simp [fieldsChk] at hf
    | cons fl fs =>
      simp only [fieldsChk, Bool.and_eq_true, beq_iff_eq, bne_iff_ne] at hf
      simp only [Option.some.injEq] at hg
      subst hg
      obtain ⟨⟨⟨⟨h1, h2⟩, h3⟩, _⟩, _⟩ := hf
      refine ⟨fl, rfl, by simp [offOf, h1], ?_, h3⟩
      split at h2
      · rename_i a' ha; simp only [decide_eq_true_eq] at h2; rw [ha, h2]
      · cases h2
  | succ f ih =>
    intro fs off t m x u hf hg
    cases t <;> simp only [stepsOf, getP] at hg <;> try (cases hg; done)
    rename_i a b
    cases fs with
    | nil => simp [fieldsChk] at hf
    | cons fl fs =>
      simp only [fieldsChk, Bool.and_eq_true, beq_iff_eq, bne_iff_ne] at hf
      obtain ⟨fl', h1, h2, h3⟩ := ih fs (off + a.sz) b _ _ u hf.2 hg
      exact ⟨fl', by simpa using h1, by simp only [offOf]; omega, h3⟩

theorem op_fieldAddr {T : TypeId} {x : Operand} {f d : Nat} (hT : TysOk P C) (R : RelX B G F [] env ts w) (hc : Cur env c) (hg : gOf c = true) (hl : ∀ l ∈ B.lents, l.1 ≠ d)
    (h : (opSem C c ⟨some d, .fieldAddr T x f, ty, pos, after, gd⟩).run c (some d) env K = some r) : OpOut P B env ts w ⟨some d, .fieldAddr T x f, ty, pos, after, gd⟩ K r := by
  simp only [opSem, Rd.run_bind'] at h
  obtain ⟨t, ht, h⟩ := Rd.run_opt h
  obtain ⟨sl, h, ho⟩ := opnd_run R hc hg h
  have hgen : ∀ {ut : Ty} {um : Md} {ux : ut.den} {u2 : TV} {ad : Addr}, ut = t → getP (stepsOf f) ut um ux = some u2 → evalO ts x = .pointer (some ad) →
      (execOp (evalO ts) ⟨some d, .fieldAddr T x f, ty, pos, after, gd⟩).run P w = .ok (.value (.pointer (some (ad.add (offOf f ut))))) w := by
    intro ut um ux u2 ad e hu2 hvp
    subst e
    obtain ⟨dsc, hd1, hd2⟩ := (tyF (hT _ _ ht)).und
    obtain ⟨fs, rfl, hfs⟩ : ∃ fs, dsc = .struct fs ∧ fieldsChk C.ty fs.toList 0 ut = true := by
      cases ut <;> cases f <;> simp only [stepsOf, getP] at hu2 <;> try (cases hu2; done)
      all_goals (cases dsc <;> simp only [descChk] at hd2 <;> first | (cases hd2; done) | exact ⟨_, rfl, hd2⟩)
    obtain ⟨fl, g1, g2, g3, g4⟩ := fields_at f fs.toList 0 ut um ux u2 hfs hu2
    have gf : fs[f]? = some fl := by simpa using g1
    simp only [execOp, hvp, Instr.fieldAt, Sem.run_bind, run_underlying hd1, Result.andThen_ok, gf, Instr.sureAddr, Sem.run_pure, fieldPlace, (tyF (hT _ _ g3)).size, g4, if_false, g2, Nat.zero_add]
  split at h
  · rename_i t0 x0 he
    obtain ⟨_, ad, cs, hv, hG, hcc, hrep⟩ := ho.ref he
    rw [Rd.run_bind'] at h
    obtain ⟨e, h⟩ := Rd.run_guard h
    simp only [decide_eq_true_eq] at e
    rw [Rd.run_bind'] at h
    obtain ⟨u2, hu2, h⟩ := Rd.run_opt h
    rw [Rd.run_bind'] at h
    obtain ⟨hp, h⟩ := Rd.run_guard h
    have hw := walkA_steps (w := w) f t0 .s x0 u2 ad hu2
    obtain ⟨c1, f1, k1, k2, k3, _, _⟩ := readA (stepsOf f) t0 .s x0 ad cs [] u2 _ hcc hrep hu2 hw
    obtain ⟨ut, um, ux⟩ := u2
    have hm := plain_md hp
    simp only at hm
    subst hm
    have hf := rep_s_fp _ _ _ _ k2
    subst hf
    obtain ⟨F', env', g1, g2, g3⟩ := set_ref (e := .ref ut ux) (v := .pointer (some (ad.add (offOf f t0)))) R hc hg hl ⟨rfl, _, c1, rfl, by rw [add_block]; exact hG, k1, k2⟩ (fun _ _ => by simp) h
    exact ⟨_, _, _, _, _, .inl (hgen e hu2 hv), g1, g2, g3⟩
  rw [Rd.run_bind'] at h
  obtain ⟨q, ep, p, h, hrel⟩ := asPlace_run hg R ho h
  rw [Rd.run_bind'] at h
  obtain ⟨t0, m0, x0, u, h1, h2, hu, h⟩ := place_run h
  rw [Rd.run_bind'] at h
  obtain ⟨e, h⟩ := Rd.run_guard h
  simp only [decide_eq_true_eq] at e
  rw [Rd.run_bind'] at h
  obtain ⟨u2, hu2, hk⟩ := Rd.run_opt h
  obtain ⟨ad, c1, f1, hvp, hw, hc1, hr1⟩ := place_rel R hrel h1 h2 hu
  obtain ⟨ut, um, ux⟩ := u
  simp only at e hu2 hr1
  subst e
  have hgp : getP (p ++ stepsOf f) t0 m0 x0 = some u2 := by rw [getP_append, hu]; exact hu2
  have hwp : walkV w (p ++ stepsOf f) t0 (unpack t0 (ts.getD q undef)) = some (ad.add (offOf f ut)) := by
    rw [walkV_append p _ t0 m0 x0 _ _ ad hu hw]
    exact walkA_steps f ut um ux u2 ad hu2
  obtain ⟨F', env', k1, k2, k3⟩ := set_ref (e := .addr q ep (p ++ stepsOf f)) (v := .pointer (some (ad.add (offOf f ut)))) R hc hg hl
    ⟨rfl, hrel.2.1, fun _ => ⟨t0, m0, x0, u2, _, h1, hgp, hwp, rfl⟩⟩ (fun _ _ => by simp) hk
  exact ⟨_, _, _, _, _, .inl (hgen rfl hu2 hvp), k1, k2, k3⟩

end
end Go.VL

namespace Go.VL
section
variable {P : Program} {C : Ctx} {B : Base} {G : Nat → Prop} {F : Nat → List Res} {H : List (TV × Value)} {env : Env} {ts : List Value} {w : World}
variable {ρ : Type} {c : List GI} {K : Unit → Env → Option ρ} {r : ρ} {ty : TypeId} {pos : String} {after : Array Edge} {gd : Option (Nat × Bool)}

theorem OpRel.pref {o : Operand} {sl : Sl} {v : Value} {q ep wc : Nat} {p : List Step} (ho : OpRel G F env ts w o sl v) (he : sl.e = .pref q ep wc p) : slotRel G w env ts (.pref q ep wc p) v [] := by
  rcases ho.2 with hu | ho
  · rw [he] at hu; cases hu
  · cases hs : slotOf o with
    | some s =>
      rw [hs] at ho
      have := ho.2.2.2.2
      rw [he] at this
      exact ⟨rfl, this.2⟩
    | none =>
      rw [hs] at ho
      obtain ⟨t', m', x', he', _⟩ := ho
      rw [he] at he'
      cases he'

/-- an alias that is looked at, and where it lies -/
theorem peek_pref {cc : List GI} {d : Option Nat} {v : Value} {q ep wc : Nat} {p : List Step} {K : TV → Env → Option ρ} (R : RelX B G F H env ts w) (hrel : slotRel G w env ts (.pref q ep wc p) v [])
    (h : (peek (.pref q ep wc p)).run cc d env K = some r) : ∃ t m x u cs f, (env.get q).e = .val t m x ∧ (env.get q).ep = ep ∧ getP p t m x = some u ∧ K u env = some r ∧ v = pack u.t cs ∧
      rep G w u.t u.m u.x cs f ∧ ((p = [] ∧ cs = unpack t (ts.getD q undef)) ∨ ∃ ad, walkV w p t (unpack t (ts.getD q undef)) = some ad ∧ cellsAt w ad cs) := by
  simp only [peek, Rd.run_bind'] at h
  obtain ⟨t, m, x, h1, h2, h⟩ := root_run h
  obtain ⟨u, hu, h⟩ := Rd.run_opt h
  obtain ⟨ha, h⟩ := Rd.run_guard h
  simp only [Rd.run_pure] at h
  obtain ⟨_, _, _, hrel⟩ := hrel
  obtain ⟨t', m', x', u', hr', hu', hc⟩ := hrel h2
  rw [h1] at hr'
  cases hr'
  rw [hu] at hu'
  cases hu'
  obtain ⟨cs, rfl, hl, hp⟩ := hc ha
  obtain ⟨hlt, hroot⟩ := R.rootVal h1
  rcases hp with ⟨rfl, rfl⟩ | ⟨ad, hw, hcc⟩
  · simp only [getP, Option.some.injEq] at hu
    subst hu
    exact ⟨t, m, x, _, _, _, h1, h2, rfl, h, rfl, hroot.1, .inl ⟨rfl, rfl⟩⟩
  · obtain ⟨c1, f, hc1, hr1, hf, _, _⟩ := readV p t m x _ _ u ad hroot.1 hu hw
    have hcc1 : cs = c1 := cellsAt_inj hcc hc1 (by rw [hl, rep_len _ _ _ _ _ hr1])
    subst hcc1
    exact ⟨t, m, x, u, cs, f, h1, h2, hu, h, rfl, hr1, .inr ⟨ad, hw, hcc⟩⟩

/-- a list's value: where its elements lie -/
theorem list_val {a : Ty} {m : Md} {xs : List a.den} {v : Value} {f : List Res} (hm : m ≠ .h) (h : vrel G w (.list a) m xs v f) : ∃ A cap, v = .slice A xs.length cap ∧ (0 < xs.length → ∃ a0, A = some a0) := by
  obtain ⟨h, hv⟩ := h
  simp only [unpack, Ty.agg, if_false, Bool.false_eq_true] at h
  cases m with
  | h => exact absurd rfl hm
  | o m =>
    rcases h with ⟨rfl, h, _⟩ | ⟨b, o, cap, fs, h, _⟩
    · simp only [List.cons.injEq, and_true] at h
      exact ⟨none, 0, h, fun h => absurd h (by simp)⟩
    · simp only [List.cons.injEq, and_true] at h
      exact ⟨_, cap, h, fun _ => ⟨_, rfl⟩⟩
  | s =>
    obtain ⟨⟨A, cap, h, _, hh⟩, _⟩ := h
    simp only [List.cons.injEq, and_true] at h
    refine ⟨A, cap, h, fun h0 => ?_⟩
    obtain ⟨ad, c, ha, _⟩ := hh 0 h0
    exact ⟨ad, ha⟩
  | p _ _ =>
    obtain ⟨⟨A, cap, h, _, hh⟩, _⟩ := h
    simp only [List.cons.injEq, and_true] at h
    refine ⟨A, cap, h, fun h0 => ?_⟩
    obtain ⟨ad, c, ha, _⟩ := hh 0 h0
    exact ⟨ad, ha⟩

theorem int_val {k : IntKind} {x : Int} {v : Value} {m : Md} {f : List Res} (h : vrel G w (.int k) m x v f) : v = .int k x := by
  have := h.1.1
  simp only [unpack, Ty.agg, if_false, Bool.false_eq_true, List.cons.injEq, and_true] at this
  exact this

theorem bool_val {x : Bool} {v : Value} {m : Md} {f : List Res} (h : vrel G w .bool m x v f) : v = .bool x := by
  have := h.1.1
  simp only [unpack, Ty.agg, if_false, Bool.false_eq_true, List.cons.injEq, and_true] at this
  exact this

theorem str_val {x : List Int} {v : Value} {m : Md} {f : List Res} (h : vrel G w .str m x v f) : ∃ s, v = .string s ∧ x = bytesV s := by
  obtain ⟨s, hs, hx⟩ := h.1.1
  simp only [unpack, Ty.agg, if_false, Bool.false_eq_true, List.cons.injEq, and_true] at hs
  exact ⟨s, hs, hx⟩

theorem Md.idx_ne {m : Md} (h : m.idx = true) : m ≠ .h := by intro e; subst e; simp [Md.idx] at h

/-- an element of a shared list -/
theorem list_s_elem {a : Ty} {xs : List a.den} {v : Value} {f : List Res} (h : vrel G w (.list a) .s xs v f) {j : Nat} (hj : j < xs.length) :
    ∃ a0 cap c, v = .slice (some a0) xs.length cap ∧ G a0.block ∧ cellsAt w (a0.add (j * a.sz)) c ∧ rep G w a .s (xs.getD j a.zero) c [] := by
  obtain ⟨h, _⟩ := h
  simp only [unpack, Ty.agg, if_false, Bool.false_eq_true] at h
  obtain ⟨⟨A, cap, h, _, hh⟩, _⟩ := h
  simp only [List.cons.injEq, and_true] at h
  obtain ⟨ad, c, rfl, hG, hc, hr⟩ := hh j hj
  have hx : xs.getD j a.zero = xs[j] := by simp [List.getD, hj]
  exact ⟨ad, cap, c, h, hG, hc, by rw [hx]; exact hr⟩

theorem op_indexAddr {T : TypeId} {x i : Operand} {d : Nat} (hT : TysOk P C) (R : RelX B G F [] env ts w) (hc : Cur env c) (hg : gOf c = true) (hl : ∀ l ∈ B.lents, l.1 ≠ d)
    (h : (opSem C c ⟨some d, .indexAddr T x i, ty, pos, after, gd⟩).run c (some d) env K = some r) : OpOut P B env ts w ⟨some d, .indexAddr T x i, ty, pos, after, gd⟩ K r := by
  simp only [opSem, Rd.run_bind'] at h
  obtain ⟨t, ht, h⟩ := Rd.run_opt h
  obtain ⟨si, h, hoi⟩ := opnd_run R hc hg h
  obtain ⟨tv, xv, h, hvi⟩ := plainV_run R hoi h
  have hTf := tyF (hT _ _ ht)
  split at h
  · -- a slice
    rename_i k mm j a heq _ _
    obtain ⟨rfl, rfl, hj⟩ : tv = .int k ∧ .s = mm ∧ HEq xv j := by simpa using heq
    cases hj
    have hiv := int_val hvi
    rw [Rd.run_bind'] at h
    obtain ⟨sl, h, ho⟩ := opnd_run R hc hg h
    obtain ⟨dsc, hd1, hd2⟩ := hTf.und
    cases dsc <;> simp only [descChk] at hd2 <;> try (cases hd2; done)
    rename_i e
    simp only [Bool.and_eq_true] at hd2
    obtain ⟨hd3, hd4⟩ := hd2
    have hety : C.ty e = some a := by
      split at hd3
      · rename_i a' ha; simp only [decide_eq_true_eq] at hd3; rw [ha, hd3]
      · cases hd3
    have hes := (tyF (hT _ _ hety)).size
    -- the model's step, once the slice is known
    have hex : ∀ (A : Option Addr) (n cap : Nat), evalO ts x = .slice A n cap → 0 ≤ j → j < (n : Int) → ∀ a0, A = some a0 →
        (execOp (evalO ts) ⟨some d, .indexAddr T x i, ty, pos, after, gd⟩).run P w = .ok (.value (.pointer (some (a0.add (j.toNat * a.sz))))) w := by
      rintro A n cap hx h0 hn a0 rfl
      simp only [execOp, hx, hiv, Instr.indexAt, asIntOf, Sem.run_bind, Sem.run_pure, Result.andThen_ok, run_underlying hd1]
      simp [h0, hn, hes]
    have sh : ∀ {b : Ty} {xs : List b.den} {fv : List Res}, a = b → vrel G w (.list b) .s xs (evalO ts x) fv → 0 ≤ j → j < (xs.length : Int) →
        (Rd.set d true (.ref b (xs.getD j.toNat b.zero))).run c (some d) env K = some r → OpOut P B env ts w ⟨some d, .indexAddr T x i, ty, pos, after, gd⟩ K r := by
      intro b xs fv hab hvr h0 hn hk
      obtain ⟨a0, cap, cs, hA, hG, hcc, hrep⟩ := list_s_elem hvr (j := j.toNat) (by omega)
      obtain ⟨F', env', k1, k2, k3⟩ := set_ref (e := .ref b (xs.getD j.toNat b.zero)) (v := .pointer (some (a0.add (j.toNat * b.sz)))) R hc hg hl ⟨rfl, _, cs, rfl, by rw [add_block]; exact hG, hcc, hrep⟩ (fun _ _ => by simp) hk
      subst hab
      exact ⟨_, _, _, _, _, .inl (hex _ _ cap hA h0 hn a0 rfl), k1, k2, k3⟩
    rw [Rd.run_bind'] at h
    obtain ⟨e0, he⟩ : ∃ e0, sl.e = e0 := ⟨_, rfl⟩
    cases e0 with
    | val t1 m1 x1 =>
      rw [he] at h
      simp only [peek, Rd.run_ret] at h
      split at h
      case h_2 => simp at h
      rename_i b m xs heq2
      obtain ⟨rfl, rfl, hxs⟩ : t1 = .list b ∧ m1 = m ∧ HEq x1 xs := by simpa using heq2
      cases hxs
      rw [Rd.run_bind'] at h
      obtain ⟨hgd, h⟩ := Rd.run_guard h
      simp only [Bool.and_eq_true, decide_eq_true_eq] at hgd
      obtain ⟨hab, hm⟩ := hgd
      rw [Rd.run_bind'] at h
      obtain ⟨hck, hk⟩ := Rd.run_check hg h
      simp only [Bool.and_eq_true, decide_eq_true_eq] at hck
      obtain ⟨h0, hn⟩ := hck
      split at hk
      · rename_i hpl
        have hmm := plain_md hpl
        subst hmm
        obtain ⟨fv, hvr⟩ : ∃ fv, vrel G w (.list b) .s xs (evalO ts x) fv := by
          rcases ho.2 with hu | ho2
          · rw [hu] at he; cases he
          cases hs : slotOf x with
          | some s => rw [hs] at ho2; have := ho2.2.2.2.2; rw [he] at this; exact ⟨_, this⟩
          | none =>
            rw [hs] at ho2
            obtain ⟨t', m', x', he', hrel⟩ := ho2
            rw [he] at he'
            cases he'
            exact ⟨_, hrel⟩
        exact sh hab hvr h0 hn hk
      cases hs : slotOf x with
      | none => simp [hs] at hk
      | some s =>
        simp only [hs, Rd.run_bind'] at hk
        obtain ⟨t2, m2, x2, h1, h2, hk⟩ := root_run hk
        rcases ho.2 with hu | ho2
        · rw [hu] at he; cases he
        rw [hs] at ho2
        obtain ⟨hlt, hep, _, hent, hrel⟩ := ho2
        have hent : (env.get s).e = .val (.list b) m1 xs := by
          rcases hent with hent | ⟨g, hent, _⟩
          · rw [hent, he]
          · rw [h1] at hent; cases hent
        rw [he] at hrel
        have hrel : vrel G w (.list b) m1 xs (evalO ts x) (F s) := hrel
        have hval : evalO ts x = ts.getD s undef := by cases x <;> simp only [slotOf] at hs <;> cases hs; rfl
        obtain ⟨A, cap, hA, hA0⟩ := list_val (Md.idx_ne hm) hrel
        obtain ⟨a0, ha0⟩ := hA0 (by omega)
        have hjn : j.toNat < xs.length := by omega
        obtain ⟨u, hu⟩ : ∃ u, getP [.idx j] (.list b) m1 xs = some u := by cases m1 <;> simp [Md.idx] at hm <;> simp [getP]
        obtain ⟨F', env', k1, k2, k3⟩ := set_ref (e := .addr s sl.ep [.idx j]) (v := .pointer (some (a0.add (j.toNat * b.sz)))) R hc hg hl
          ⟨rfl, by rw [hep]; exact Nat.le_refl _, fun _ => ⟨.list b, m1, xs, u, _, hent, hu, by
            rw [← hval, hA, ha0]
            simp [unpack, Ty.agg, walkV, hjn, walkA], rfl⟩⟩ (fun _ _ => by simp) hk
        subst hab
        exact ⟨_, _, _, _, _, .inl (hex A _ cap hA h0 hn a0 ha0), k1, k2, k3⟩
    | pref q ep wc p =>
      have hrel := ho.pref he
      rw [he] at h
      obtain ⟨t1, m1, x1, u, cs, f, h1, h2, hu, h, hv, hr1, hp⟩ := peek_pref R hrel h
      split at h
      case h_2 => simp at h
      rename_i b m xs
      rw [Rd.run_bind'] at h
      obtain ⟨hgd, h⟩ := Rd.run_guard h
      simp only [Bool.and_eq_true, decide_eq_true_eq] at hgd
      obtain ⟨hab, hm⟩ := hgd
      rw [Rd.run_bind'] at h
      obtain ⟨hck, hk⟩ := Rd.run_check hg h
      simp only [Bool.and_eq_true, decide_eq_true_eq] at hck
      obtain ⟨h0, hn⟩ := hck
      simp only at hr1 hv
      have hvr : vrel G w (.list b) m xs (evalO ts x) f := by rw [hv]; exact vrel_pack hr1
      split at hk
      · rename_i hpl
        have hmm := plain_md hpl
        subst hmm
        exact sh hab hvr h0 hn hk
      simp only at hk
      obtain ⟨A, cap, hA, hA0⟩ := list_val (Md.idx_ne hm) hvr
      obtain ⟨a0, ha0⟩ := hA0 (by omega)
      have hjn : j.toNat < xs.length := by omega
      obtain ⟨u2, hu2⟩ : ∃ u, getP [.idx j] (.list b) m xs = some u := by cases m <;> simp [Md.idx] at hm <;> simp [getP]
      have hcs : cs = [.slice (some a0) xs.length cap] := by
        have := hvr.2
        have e := unpack_pack hr1
        rw [← hv, hA, ha0] at e
        simpa [unpack, Ty.agg] using e.symm
      have hgp : getP (p ++ [.idx j]) t1 m1 x1 = some u2 := by rw [getP_append, hu]; exact hu2
      have hwp : walkV w (p ++ [.idx j]) t1 (unpack t1 (ts.getD q undef)) = some (a0.add (j.toNat * b.sz)) := by
        rcases hp with ⟨rfl, hcs2⟩ | ⟨ad, hw, hcc⟩
        · simp only [getP, Option.some.injEq, TV.mk.injEq] at hu
          obtain ⟨rfl, rfl, hxx⟩ := hu
          rw [← hcs2, hcs]
          simp [walkV, hjn, walkA]
        · rw [walkV_append p _ t1 m1 x1 _ _ ad hu hw]
          have hcell : w.cell? ad = some (.slice (some a0) xs.length cap) := by
            have := hcc 0 _ (by rw [hcs]; rfl)
            simpa [Addr.add] using this
          simp [walkA, hcell, hjn]
      obtain ⟨F', env', k1, k2, k3⟩ := set_ref (e := .addr q ep (p ++ [.idx j])) (v := .pointer (some (a0.add (j.toNat * b.sz)))) R hc hg hl
        ⟨rfl, hrel.2.1, fun _ => ⟨t1, m1, x1, u2, _, h1, hgp, hwp, rfl⟩⟩ (fun _ _ => by simp) hk
      subst hab
      exact ⟨_, _, _, _, _, .inl (hex A _ cap hA h0 hn a0 ha0), k1, k2, k3⟩
    | _ => rw [he] at h; simp [peek] at h
  · -- an array
    rename_i k mm j n a heq _ _
    obtain ⟨rfl, rfl, hj⟩ : tv = .int k ∧ .s = mm ∧ HEq xv j := by simpa using heq
    cases hj
    have hiv := int_val hvi
    rw [Rd.run_bind'] at h
    obtain ⟨sl, h, ho⟩ := opnd_run R hc hg h
    split at h
    · rename_i t0 x0 he
      obtain ⟨_, ad, cs, hv, hG, hcc, hrep⟩ := ho.ref he
      rw [Rd.run_bind'] at h
      obtain ⟨y, hy, h⟩ := Rd.run_opt h
      obtain ⟨e0, rfl⟩ := castV_eq hy
      subst e0
      rw [Rd.run_bind'] at h
      obtain ⟨hck, hk⟩ := Rd.run_check hg h
      simp only [Bool.and_eq_true, decide_eq_true_eq] at hck
      obtain ⟨h0, hn⟩ := hck
      obtain ⟨dsc, hd1, hd2⟩ := hTf.und
      cases dsc <;> simp only [descChk] at hd2 <;> try (cases hd2; done)
      rename_i n' e
      simp only [Bool.and_eq_true, beq_iff_eq] at hd2
      obtain ⟨⟨hnn, hd3⟩, hd4⟩ := hd2
      subst hnn
      have hety : C.ty e = some a := by
        split at hd3
        · rename_i a' ha; simp only [decide_eq_true_eq] at hd3; rw [ha, hd3]
        · cases hd3
      have hes := (tyF (hT _ _ hety)).size
      have hjn : j.toNat < n := by omega
      have hgp : getP [.idx j] (.arr n a) .s x0 = some ⟨a, .s, List.getD x0 j.toNat a.zero⟩ := by simp [getP, Md.e]
      have hwp : walkA w [.idx j] (.arr n a) ad = some (ad.add (j.toNat * a.sz)) := by simp [walkA, hjn]
      obtain ⟨c1, f1, k1, k2, k3, _, _⟩ := readA [.idx j] (.arr n a) .s x0 ad cs [] _ _ hcc hrep hgp hwp
      have hf := rep_s_fp _ _ _ _ k2
      subst hf
      obtain ⟨F', env', g1, g2, g3⟩ := set_ref (e := .ref a (List.getD x0 j.toNat a.zero)) (v := .pointer (some (ad.add (j.toNat * a.sz)))) R hc hg hl ⟨rfl, _, c1, rfl, by rw [add_block]; exact hG, k1, k2⟩ (fun _ _ => by simp) hk
      refine ⟨_, _, _, _, _, .inl ?_, g1, g2, g3⟩
      simp only [execOp, hv, hiv, Instr.indexAt, asIntOf, Sem.run_bind, Sem.run_pure, Result.andThen_ok, run_underlying hd1, Instr.sureAddr]
      simp [h0, hn, hes]
    rw [Rd.run_bind'] at h
    obtain ⟨q, ep, p, h, hrel⟩ := asPlace_run hg R ho h
    rw [Rd.run_bind'] at h
    obtain ⟨t0, m0, x0, u, h1, h2, hu, h⟩ := place_run h
    rw [Rd.run_bind'] at h
    obtain ⟨hgd, h⟩ := Rd.run_guard h
    simp only [Bool.and_eq_true, decide_eq_true_eq] at hgd
    obtain ⟨hut, _⟩ := hgd
    rw [Rd.run_bind'] at h
    obtain ⟨hck, hk⟩ := Rd.run_check hg h
    simp only [Bool.and_eq_true, decide_eq_true_eq] at hck
    obtain ⟨h0, hn⟩ := hck
    obtain ⟨ad, c1, f1, hvp, hw, hc1, hr1⟩ := place_rel R hrel h1 h2 hu
    obtain ⟨dsc, hd1, hd2⟩ := hTf.und
    cases dsc <;> simp only [descChk] at hd2 <;> try (cases hd2; done)
    rename_i n' e
    simp only [Bool.and_eq_true, beq_iff_eq] at hd2
    obtain ⟨⟨hnn, hd3⟩, hd4⟩ := hd2
    subst hnn
    have hety : C.ty e = some a := by
      split at hd3
      · rename_i a' ha; simp only [decide_eq_true_eq] at hd3; rw [ha, hd3]
      · cases hd3
    have hes := (tyF (hT _ _ hety)).size
    obtain ⟨ut, um, ux⟩ := u
    simp only at hut
    subst hut
    have hjn : j.toNat < n := by omega
    have hgp : getP (p ++ [.idx j]) t0 m0 x0 = some ⟨a, um.e, ux.getD j.toNat a.zero⟩ := by rw [getP_append, hu]; simp [getP]
    have hwp : walkV w (p ++ [.idx j]) t0 (unpack t0 (ts.getD q undef)) = some (ad.add (j.toNat * a.sz)) := by
      rw [walkV_append p _ t0 m0 x0 _ _ ad hu hw]
      simp [walkA, hjn]
    obtain ⟨F', env', k1, k2, k3⟩ := set_ref (e := .addr q ep (p ++ [.idx j])) (v := .pointer (some (ad.add (j.toNat * a.sz)))) R hc hg hl
      ⟨rfl, hrel.2.1, fun _ => ⟨t0, m0, x0, _, _, h1, hgp, hwp, rfl⟩⟩ (fun _ _ => by simp) hk
    refine ⟨_, _, _, _, _, .inl ?_, k1, k2, k3⟩
    simp only [execOp, hvp, hiv, Instr.indexAt, asIntOf, Sem.run_bind, Sem.run_pure, Result.andThen_ok, run_underlying hd1, Instr.sureAddr]
    simp [h0, hn, hes]
  · simp at h

end
end Go.VL

namespace Go.VL

/-- types whose '==' the model decides part by part; the second is for a struct's fields -/
def eqC (P : Program) (ty : TypeId → Option Ty) : Ty → (TypeId → Bool) × (List Field → Bool)
  | .pair a b =>
    let fs : List Field → Bool := fun l => match l with | f :: fs => (eqC P ty a).1 f.type && (eqC P ty b).2 fs | [] => false
    (fun T => !P.stoodInHeld T && (match P.underlying T with
      | some (.struct l) => fs l.toList
      | _ => false), fs)
  | .arr _ a => (fun T => (match P.underlying T with
      | some (.array _ e) => (eqC P ty a).1 e
      | _ => false), fun _ => false)
  | .int _ => (fun _ => true, fun _ => false)
  | .bool => (fun _ => true, fun _ => false)
  | .str => (fun _ => true, fun _ => false)
  | .unit => (fun _ => false, fun l => l.isEmpty)
  | .list _ => (fun _ => false, fun _ => false)
  | .ptr _ => (fun _ => false, fun _ => false)
  | .fn => (fun _ => false, fun _ => false)

def eqTyChk (P : Program) (ty : TypeId → Option Ty) (t : Ty) (T : TypeId) : Bool := (eqC P ty t).1 T
def eqFs (P : Program) (ty : TypeId → Option Ty) (t : Ty) (l : List Field) : Bool := (eqC P ty t).2 l

section
variable {P : Program} {ty : TypeId → Option Ty}
theorem eqTyChk_pair {a b : Ty} {T : TypeId} : eqTyChk P ty (.pair a b) T = (!P.stoodInHeld T && (match P.underlying T with | some (.struct fs) => eqFs P ty (.pair a b) fs.toList | _ => false)) := rfl
theorem eqTyChk_arr {n : Nat} {a : Ty} {T : TypeId} : eqTyChk P ty (.arr n a) T = (match P.underlying T with | some (.array _ e) => eqTyChk P ty a e | _ => false) := rfl
theorem eqTyChk_unit {T : TypeId} : eqTyChk P ty .unit T = false := rfl
theorem eqTyChk_list {a : Ty} {T : TypeId} : eqTyChk P ty (.list a) T = false := rfl
theorem eqTyChk_ptr {a : Ty} {T : TypeId} : eqTyChk P ty (.ptr a) T = false := rfl
theorem eqTyChk_fn {T : TypeId} : eqTyChk P ty .fn T = false := rfl
theorem eqFs_cons {a b : Ty} {f : Field} {fs : List Field} : eqFs P ty (.pair a b) (f :: fs) = (eqTyChk P ty a f.type && eqFs P ty b fs) := rfl
theorem eqFs_nil {a b : Ty} : eqFs P ty (.pair a b) [] = false := rfl
theorem eqFs_unit {l : List Field} : eqFs P ty .unit l = l.isEmpty := rfl
theorem eqFs_int {k : IntKind} {l : List Field} : eqFs P ty (.int k) l = false := rfl
theorem eqFs_bool {l : List Field} : eqFs P ty .bool l = false := rfl
theorem eqFs_str {l : List Field} : eqFs P ty .str l = false := rfl
theorem eqFs_list {a : Ty} {l : List Field} : eqFs P ty (.list a) l = false := rfl
theorem eqFs_ptr {a : Ty} {l : List Field} : eqFs P ty (.ptr a) l = false := rfl
theorem eqFs_fn {l : List Field} : eqFs P ty .fn l = false := rfl
theorem eqFs_arr {n : Nat} {a : Ty} {l : List Field} : eqFs P ty (.arr n a) l = false := rfl
end

def EqsOk (P : Program) (C : Ctx) : Prop := ∀ T t, C.ty T = some t → C.eqs T = true → eqTyChk P C.ty t T = true ∧ (t.agg = true → P.eqGuardType P.depth T = false)

theorem bytesV_eq (s s' : ByteArray) : (bytesV s == bytesV s') = (s.toList == s'.toList) := by
  have key : ∀ l l' : List UInt8, (l.map (fun b => (b.toNat : Int)) == l'.map fun b => (b.toNat : Int)) = (l == l') := by
    intro l
    induction l with
    | nil => intro l'; cases l' <;> rfl
    | cons a l ih =>
      intro l'
      cases l' with
      | nil => rfl
      | cons b l' =>
        simp only [List.map_cons, List.cons_beq_cons, ih]
        congr 1
        rw [Bool.eq_iff_iff]
        simp only [beq_iff_eq]
        constructor
        · intro h; exact UInt8.toNat_inj.1 (by omega)
        · intro h; rw [h]
  rw [bytesV, bytesV, key, ByteArray.toList_eq, ByteArray.toList_eq]

section
variable {P : Program} {C : Ctx}

theorem run_part {T : TypeId} {t : Ty} (f : TyF P C T t) {w : World} {xs : Array Value} {pre c post : List Value} {off : Nat} (hx : xs.toList = pre ++ (c ++ post)) (ho : pre.length = off) (hl : c.length = t.sz) :
    (part T xs off).run P w = .ok (pack t c) w := by
  simp only [part, Sem.run_bind, f.agg, Result.andThen_ok]
  by_cases ha : t.agg = true
  · simp only [ha, if_true, Sem.run_bind, f.size, Result.andThen_ok, pack]
    have : xs.extract off (off + t.sz) = c.toArray := by
      apply Array.toList_inj.1
      rw [Array.toList_extract, hx, List.extract_eq_take_drop, ← ho, Nat.add_sub_cancel_left, List.drop_left, ← hl, List.take_left]
    rw [this]
    rfl
  · simp only [ha, if_false, Bool.false_eq_true, pack]
    have hz : t.sz = 1 := by cases t <;> first | rfl | simp [Ty.agg] at ha
    rw [hz] at hl
    match c, hl with
    | [v], _ =>
      have : xs[off]? = some v := by
        rw [← Array.getElem?_toList, hx, List.getElem?_append_right (by omega), ho]
        simp
      simp [this]

def eqElems (d : Nat) (elem : TypeId) (n : Nat) (xs ys : Array Value) : List Nat → Sem Bool
  | [] => pure true
  | i :: l => do
    let a ← part elem xs (i * n)
    let b ← part elem ys (i * n)
    let r ← Op.equalIn d elem a b
    if (!r) = true then pure false else eqElems d elem n xs ys l

theorem run_equalIn_array (w : World) (d : Nat) (t elem : TypeId) (len n : Nat) (xs ys : Array Value) (ht : P.underlying t = some (.array len elem)) (hs : ∀ w, (sizeOf elem).run P w = .ok n w) :
    (Op.equalIn (d + 1) t (.agg xs) (.agg ys)).run P w = (eqElems d elem n xs ys (List.range' 0 len)).run P w := by
  simp only [Op.equalIn, Sem.run_bind, run_underlying ht, Result.andThen_ok, hs, Std.Legacy.Range.forIn_eq_forIn_range', Std.Legacy.Range.size, Nat.sub_zero, Nat.add_sub_cancel, Nat.div_one]
  generalize List.range' 0 len = l
  induction l generalizing w with
  | nil => simp [eqElems]
  | cons i l ih =>
    simp only [List.forIn_cons, eqElems, Sem.run_bind]
    generalize (part elem xs (i * n)).run P w = r1
    cases r1 with
    | ok a w1 =>
      simp only [Result.andThen_ok]
      generalize (part elem ys (i * n)).run P w1 = r2
      cases r2 with
      | ok b w2 =>
        simp only [Result.andThen_ok]
        generalize (Op.equalIn d elem a b).run P w2 = r3
        cases r3 with
        | ok r w3 =>
          cases r
          · simp only [Result.andThen_ok, Bool.not_false, if_true, Sem.run_pure]
          · simp only [Result.andThen_ok, Bool.not_true, Bool.false_eq_true, if_false, Sem.run_pure]
            exact ih w3
        | halt x w3 => simp [Result.andThen]
      | halt x w2 => simp [Result.andThen]
    | halt x w1 => simp [Result.andThen]

theorem run_equal (hT : TysOk P C) {G : Nat → Prop} {w : World} : ∀ (t : Ty),
    (∀ (T : TypeId) (d : Nat) (m m' : Md) (x y : t.den) (va vb : Value) (f f' : List Res), C.ty T = some t → eqTyChk P C.ty t T = true → t.dep ≤ d → vrel G w t m x va f → vrel G w t m' y vb f' →
      (Op.equalIn d T va vb).run P w = .ok (eqv t x y) w) ∧
    (∀ (fs : List Field) (d off : Nat) (m m' : Md) (x y : t.den) (xs ys : Array Value) (p1 p2 c1 c2 : List Value) (f f' : List Res), eqFs P C.ty t fs = true → fieldsChk C.ty fs off t = true → t.dep ≤ d + 1 →
      xs.toList = p1 ++ c1 → ys.toList = p2 ++ c2 → p1.length = off → p2.length = off → rep G w t m x c1 f → rep G w t m' y c2 f' → (Op.eqFields d xs ys fs).run P w = .ok (eqv t x y) w) := by
  intro t
  induction t with
  | int k =>
    refine ⟨fun T d m m' x y va vb f f' hty _ hd hx hy => ?_, fun fs => by intros; rename_i h _ _ _ _ _ _ _ _; cases fs <;> simp [eqFs_int] at h⟩
    obtain ⟨dsc, hd1, hd2⟩ := (tyF (hT _ _ hty)).und
    cases dsc <;> simp only [descChk] at hd2 <;> try (cases hd2; done)
    obtain ⟨d, rfl⟩ : ∃ e, d = e + 1 := ⟨d - 1, by simp [Ty.dep] at hd; omega⟩
    rw [int_val hx, int_val hy, run_equalIn_int w d T _ _ _ _ hd1]
    congr 1
  | bool =>
    refine ⟨fun T d m m' x y va vb f f' hty _ hd hx hy => ?_, fun fs => by intros; rename_i h _ _ _ _ _ _ _ _; cases fs <;> simp [eqFs_bool] at h⟩
    obtain ⟨dsc, hd1, hd2⟩ := (tyF (hT _ _ hty)).und
    cases dsc <;> simp only [descChk] at hd2 <;> try (cases hd2; done)
    obtain ⟨d, rfl⟩ : ∃ e, d = e + 1 := ⟨d - 1, by simp [Ty.dep] at hd; omega⟩
    rw [bool_val hx, bool_val hy, run_equalIn_bool' w d T _ _ hd1]
    rfl
  | str =>
    refine ⟨fun T d m m' x y va vb f f' hty _ hd hx hy => ?_, fun fs => by intros; rename_i h _ _ _ _ _ _ _ _; cases fs <;> simp [eqFs_str] at h⟩
    obtain ⟨dsc, hd1, hd2⟩ := (tyF (hT _ _ hty)).und
    cases dsc <;> simp only [descChk] at hd2 <;> try (cases hd2; done)
    obtain ⟨d, rfl⟩ : ∃ e, d = e + 1 := ⟨d - 1, by simp [Ty.dep] at hd; omega⟩
    obtain ⟨s, rfl, rfl⟩ := str_val hx
    obtain ⟨s', rfl, rfl⟩ := str_val hy
    rw [run_equalIn_string w d T _ _ hd1]
    simp only [eqv]
    rw [← bytesV_eq]
  | unit =>
    refine ⟨fun T d m m' x y va vb f f' hty h => by simp [eqTyChk_unit] at h, ?_⟩
    intro fs d off m m' x y xs ys p1 p2 c1 c2 f f' h1 h2 hd hx hy ho ho' hr hr'
    cases fs with
    | nil => simp [Op.eqFields, eqv]
    | cons fl fs => simp [eqFs_unit] at h1
  | list a _ => exact ⟨fun T d m m' x y va vb f f' hty h => by simp [eqTyChk_list] at h, fun fs => by intros; rename_i h _ _ _ _ _ _ _ _; cases fs <;> simp [eqFs_list] at h⟩
  | ptr a _ => exact ⟨fun T d m m' x y va vb f f' hty h => by simp [eqTyChk_ptr] at h, fun fs => by intros; rename_i h _ _ _ _ _ _ _ _; cases fs <;> simp [eqFs_ptr] at h⟩
  | fn => exact ⟨fun T d m m' x y va vb f f' hty h => by simp [eqTyChk_fn] at h, fun fs => by intros; rename_i h _ _ _ _ _ _ _ _; cases fs <;> simp [eqFs_fn] at h⟩
  | pair a b iha ihb =>
    have fields : ∀ (fs : List Field) (d off : Nat) (m m' : Md) (x y : (Ty.pair a b).den) (xs ys : Array Value) (p1 p2 c1 c2 : List Value) (f f' : List Res), eqFs P C.ty (.pair a b) fs = true → fieldsChk C.ty fs off (.pair a b) = true → (Ty.pair a b).dep ≤ d + 1 →
      xs.toList = p1 ++ c1 → ys.toList = p2 ++ c2 → p1.length = off → p2.length = off → rep G w (.pair a b) m x c1 f → rep G w (.pair a b) m' y c2 f' → (Op.eqFields d xs ys fs).run P w = .ok (eqv (.pair a b) x y) w := by
      intro fs d off m m' x y xs ys p1 p2 c1 c2 f f' h1 h2 hd hx hy ho ho' hr hr'
      cases fs with
      | nil => simp [eqFs_nil] at h1
      | cons fl fs =>
        simp only [eqFs_cons, Bool.and_eq_true] at h1
        simp only [fieldsChk, Bool.and_eq_true, beq_iff_eq, bne_iff_ne] at h2
        obtain ⟨⟨⟨⟨hoff, hfty⟩, _⟩, hname⟩, hrest⟩ := h2
        have hfty : C.ty fl.type = some a := by
          split at hfty
          · rename_i a' ha; simp only [decide_eq_true_eq] at hfty; rw [ha, hfty]
          · cases hfty
        simp only [Ty.dep] at hd
        obtain ⟨ca, cb, fa, fb, ra, rb, rfl, rfl⟩ := hr
        obtain ⟨ca', cb', fa', fb', ra', rb', rfl, rfl⟩ := hr'
        have la := rep_len _ _ _ _ _ ra
        have la' := rep_len _ _ _ _ _ ra'
        have hF := tyF (hT _ _ hfty)
        simp only [Op.eqFields, ne_eq, hname, not_false_eq_true, if_true, Sem.run_bind, run_part hF hx (ho.trans hoff.symm) la, run_part hF hy (ho'.trans hoff.symm) la', Result.andThen_ok]
        rw [iha.1 fl.type d _ _ x.1 y.1 _ _ _ _ hfty h1.1 (by omega) (vrel_pack ra) (vrel_pack ra')]
        simp only [Result.andThen_ok, eqv]
        cases eqv a x.1 y.1 with
        | false => simp
        | true =>
          simp only [Bool.not_true, Bool.false_eq_true, if_false, Bool.true_and]
          exact ihb.2 fs d (off + a.sz) _ _ x.2 y.2 xs ys (p1 ++ ca) (p2 ++ ca') cb cb' _ _ h1.2 hrest (by omega) (by rw [hx]; simp) (by rw [hy]; simp) (by simp [ho, la]) (by simp [ho', la']) rb rb'
    refine ⟨fun T d m m' x y va vb f f' hty hq hd hx hy => ?_, fields⟩
    obtain ⟨dsc, hd1, hd2⟩ := (tyF (hT _ _ hty)).und
    simp only [eqTyChk_pair, hd1, Bool.and_eq_true, Bool.not_eq_true'] at hq
    obtain ⟨hst, hq⟩ := hq
    cases dsc <;> simp only [descChk] at hd2 <;> try (cases hd2; done)
    rename_i fs
    obtain ⟨d, rfl⟩ : ∃ e, d = e + 1 := ⟨d - 1, by simp [Ty.dep] at hd; omega⟩
    have e1 := hx.2
    have e2 := hy.2
    simp only [pack, Ty.agg, if_true] at e1 e2
    rw [← e1, ← e2]
    have hfo : P.fieldsOf T = fs := by simp [Program.fieldsOf, hd1]
    rw [run_equalIn_struct w d T _ _ (by rw [hfo]; exact hd1) hst, hfo]
    exact fields fs.toList d 0 m m' x y _ _ [] [] _ _ _ _ hq hd2 hd (by simp) (by simp) rfl rfl hx.1 hy.1
  | arr n a iha =>
    refine ⟨fun T d m m' x y va vb f f' hty hq hd hx hy => ?_, fun fs => by intros; rename_i h _ _ _ _ _ _ _ _; cases fs <;> simp [eqFs_arr] at h⟩
    obtain ⟨dsc, hd1, hd2⟩ := (tyF (hT _ _ hty)).und
    simp only [eqTyChk_arr, hd1] at hq
    cases dsc <;> simp only [descChk] at hd2 <;> try (cases hd2; done)
    rename_i n' e
    simp only [Bool.and_eq_true, beq_iff_eq] at hd2
    obtain ⟨⟨hnn, hd3⟩, hd4⟩ := hd2
    subst hnn
    have hety : C.ty e = some a := by
      split at hd3
      · rename_i a' ha; simp only [decide_eq_true_eq] at hd3; rw [ha, hd3]
      · cases hd3
    have hF := tyF (hT _ _ hety)
    obtain ⟨d, rfl⟩ : ∃ e, d = e + 1 := ⟨d - 1, by simp [Ty.dep] at hd; omega⟩
    simp only [Ty.dep] at hd
    have e1 := hx.2
    have e2 := hy.2
    simp only [pack, Ty.agg, if_true] at e1 e2
    rw [← e1, ← e2, run_equalIn_array w d T e n a.sz _ _ hd1 hF.size]
    have hx1 := hx.1
    have hy1 := hy.1
    obtain ⟨hxn, hx1⟩ := hx1
    obtain ⟨hyn, hy1⟩ := hy1
    have key : ∀ (xs ys : List a.den) (k : Nat) (X Y : Array Value) (p1 p2 c1 c2 : List Value) (f f' : List Res), xs.length = ys.length → X.toList = p1 ++ c1 → Y.toList = p2 ++ c2 → p1.length = k * a.sz → p2.length = k * a.sz →
        repA (rep G w a m.e) xs c1 f → repA (rep G w a m'.e) ys c2 f' → (eqElems d e a.sz X Y (List.range' k xs.length)).run P w = .ok (List.all (List.zip xs ys) fun z => eqv a z.1 z.2) w := by
      intro xs
      induction xs with
      | nil => intro ys k X Y p1 p2 c1 c2 f f' hl _ _ _ _ _ _; cases ys <;> simp at hl; simp [eqElems]
      | cons z zs ih =>
        intro ys k X Y p1 p2 c1 c2 f f' hl hX hY h1 h2 r1 r2
        cases ys with
        | nil => simp at hl
        | cons z' zs' =>
          obtain ⟨ca, cb, fa, fb, ra, rb, rfl, rfl⟩ := r1
          obtain ⟨ca', cb', fa', fb', ra', rb', rfl, rfl⟩ := r2
          have la := rep_len _ _ _ _ _ ra
          have la' := rep_len _ _ _ _ _ ra'
          simp only [List.length_cons, List.range'_succ, eqElems, Sem.run_bind, run_part hF hX h1 la, run_part hF hY h2 la', Result.andThen_ok]
          rw [iha.1 e d _ _ z z' _ _ _ _ hety hq (by omega) (vrel_pack ra) (vrel_pack ra')]
          simp only [Result.andThen_ok, List.zip_cons_cons, List.all_cons]
          cases eqv a z z' with
          | false => simp
          | true =>
            simp only [Bool.not_true, Bool.false_eq_true, if_false, Bool.true_and]
            exact ih zs' (k + 1) X Y (p1 ++ ca) (p2 ++ ca') cb cb' _ _ (by simpa using hl) (by rw [hX]; simp) (by rw [hY]; simp) (by simp [h1, la, Nat.add_mul]) (by simp [h2, la', Nat.add_mul]) rb rb'
    have := key x y 0 (unpack (.arr n a) va).toArray (unpack (.arr n a) vb).toArray [] [] _ _ _ _ (hxn.trans hyn.symm) (by simp) (by simp) (by simp) (by simp) hx1 hy1
    rw [hxn] at this
    exact this

end
end Go.VL

namespace Go.VL
section
variable {P : Program} {C : Ctx} {B : Base} {G : Nat → Prop} {F : Nat → List Res} {H : List (TV × Value)} {env : Env} {ts : List Value} {w : World}
variable {ρ : Type} {c : List GI} {K : Unit → Env → Option ρ} {r : ρ} {ty : TypeId} {pos : String} {after : Array Edge} {gd : Option (Nat × Bool)}

theorem vrel_int (k : IntKind) (x : Int) (m : Md) : vrel G w (.int k) m x (.int k x) [] := ⟨⟨rfl, rfl⟩, rfl⟩
theorem vrel_bool (x : Bool) (m : Md) : vrel G w .bool m x (.bool x) [] := ⟨⟨rfl, rfl⟩, rfl⟩

theorem eqGuard_run {T : TypeId} {op : BinOp} {x y : Operand} {t : Ty} {m : Md} {xv : t.den} {va vb : Value} {f : List Res} (hq : t.agg = true → P.eqGuardType P.depth T = false) (hok : t.eqOk = true) (hx : vrel G w t m xv va f) :
    (eqGuard op T x y va vb).run P w = .ok () w := by
  have hn : va ≠ .nilIface := by
    intro e
    have h := hx.2
    have hr := hx.1
    rw [e] at hr
    cases t <;> simp only [unpack, Ty.agg, if_false, if_true, Bool.false_eq_true, Ty.eqOk] at hr hok <;> try (cases hok; done)
    · simp [rep] at hr
    · simp [rep] at hr
    · simp [rep] at hr
    · rw [e] at h; simp [pack, Ty.agg] at h
    · rw [e] at h; simp [pack, Ty.agg] at h
    · rw [e] at h; simp [pack, Ty.agg] at h
  by_cases hag : t.agg = true
  · have e1 := hx.2
    simp only [pack, hag, if_true] at e1
    rw [← e1]
    unfold eqGuard
    cases op <;> simp <;> (cases vb <;> simp [hq hag])
  · have : ∀ cs, va ≠ .agg cs := by
      intro cs e
      have hr := hx.1
      rw [e] at hr
      cases t <;> (try (simp [Ty.agg] at hag; done)) <;> (try (simp [Ty.eqOk] at hok; done)) <;> simp [unpack, Ty.agg, rep] at hr
    unfold eqGuard
    cases op <;> simp <;> (cases va <;> first | (exact absurd rfl hn) | (exact absurd rfl (this _)) | (cases vb <;> rfl))

theorem binV_run (hT : TysOk P C) (hE : EqsOk P C) {T : TypeId} {op : BinOp} {x y : Operand} {ta tb : Ty} {xa : ta.den} {xb : tb.den} {va vb : Value} {b : Bool} {u : TV}
    (hq : (match op with | .eql | .neq => decide (C.ty T = some ta) && C.eqs T && decide (ta.dep ≤ 10000) | _ => true) = true)
    (h : binV op ⟨ta, .s, xa⟩ ⟨tb, .s, xb⟩ = some (b, u)) (hb : b = true) (hx : vrel G w ta .s xa va []) (hy : vrel G w tb .s xb vb []) :
    ∃ v, (do eqGuard op T x y va vb; binOp op T va vb : Sem Value).run P w = .ok v w ∧ vrel G w u.t u.m u.x v [] := by
  subst hb
  have ints : ∀ {k : IntKind} {x' : Int} {v : Value}, vrel G w (.int k) .s x' v [] → v = .int k x' := int_val
  cases op with
  | eql =>
    simp only [Bool.and_eq_true, decide_eq_true_eq] at hq
    obtain ⟨⟨hty, heq⟩, hdep⟩ := hq
    simp only [binV] at h
    split at h
    case isFalse => cases h
    rename_i hok
    simp only [Option.map_eq_some_iff, Prod.mk.injEq, true_and] at h
    obtain ⟨z, hz, rfl⟩ := h
    obtain ⟨e, rfl⟩ := castV_eq hz
    subst e
    obtain ⟨hq1, hq2⟩ := hE T tb hty heq
    have hg := eqGuard_run (op := .eql) (x := x) (y := y) (vb := vb) hq2 hok hx
    refine ⟨.bool (eqv tb xa xb), ?_, vrel_bool _ _⟩
    simp only [Sem.run_bind, hg, Result.andThen_ok]
    have hrun := (run_equal hT tb).1 T 10000 .s .s xa xb va vb [] [] hty hq1 hdep hx hy
    have gen : (∀ k a, va ≠ .int k a) → (∀ s, va ≠ .string s) → (∀ k n, va ≠ .float k n) → (∀ k n m, va ≠ .complex k n m) → binOp .eql T va vb = (do pure (.bool (← Op.equal T va vb)) : Sem Value) := by
      intro h1 h2 h3 h4
      cases va <;> first | exact absurd rfl (h1 _ _) | exact absurd rfl (h2 _) | exact absurd rfl (h3 _ _) | exact absurd rfl (h4 _ _ _) | (cases vb <;> rfl)
    cases tb with
    | int k =>
      rw [int_val hx, int_val hy, binOp_eql, Sem.run_pure]
      congr 2
    | str =>
      obtain ⟨s, rfl, rfl⟩ := str_val hx
      obtain ⟨s', rfl, rfl⟩ := str_val hy
      show (Op.stringOp .eql s s').run P w = _
      simp only [Op.stringOp, Sem.run_pure, eqv]
      rw [← bytesV_eq]
    | bool =>
      rw [gen (fun k a => by rw [bool_val hx]; simp) (fun s => by rw [bool_val hx]; simp) (fun k n => by rw [bool_val hx]; simp) (fun k n m => by rw [bool_val hx]; simp)]
      simp only [Sem.run_bind, Op.equal, Op.maxDepth, hrun, Result.andThen_ok, Sem.run_pure]
    | unit => simp [eqTyChk_unit] at hq1
    | list a => simp [Ty.eqOk] at hok
    | ptr a => simp [Ty.eqOk] at hok
    | fn => simp [Ty.eqOk] at hok
    | pair a b =>
      have e1 := hx.2
      simp only [pack, Ty.agg, if_true] at e1
      rw [gen (fun k a => by rw [← e1]; simp) (fun s => by rw [← e1]; simp) (fun k n => by rw [← e1]; simp) (fun k n m => by rw [← e1]; simp)]
      simp only [Sem.run_bind, Op.equal, Op.maxDepth, hrun, Result.andThen_ok, Sem.run_pure]
    | arr n a =>
      have e1 := hx.2
      simp only [pack, Ty.agg, if_true] at e1
      rw [gen (fun k a => by rw [← e1]; simp) (fun s => by rw [← e1]; simp) (fun k n => by rw [← e1]; simp) (fun k n m => by rw [← e1]; simp)]
      simp only [Sem.run_bind, Op.equal, Op.maxDepth, hrun, Result.andThen_ok, Sem.run_pure]
  | neq =>
    simp only [Bool.and_eq_true, decide_eq_true_eq] at hq
    obtain ⟨⟨hty, heq⟩, hdep⟩ := hq
    simp only [binV] at h
    split at h
    case isFalse => cases h
    rename_i hok
    simp only [Option.map_eq_some_iff, Prod.mk.injEq, true_and] at h
    obtain ⟨z, hz, rfl⟩ := h
    obtain ⟨e, rfl⟩ := castV_eq hz
    subst e
    obtain ⟨hq1, hq2⟩ := hE T tb hty heq
    have hg := eqGuard_run (op := .neq) (x := x) (y := y) (vb := vb) hq2 hok hx
    refine ⟨.bool (!(eqv tb xa xb)), ?_, vrel_bool _ _⟩
    simp only [Sem.run_bind, hg, Result.andThen_ok]
    have hrun := (run_equal hT tb).1 T 10000 .s .s xa xb va vb [] [] hty hq1 hdep hx hy
    have gen : (∀ k a, va ≠ .int k a) → (∀ s, va ≠ .string s) → (∀ k n, va ≠ .float k n) → (∀ k n m, va ≠ .complex k n m) → binOp .neq T va vb = (do pure (.bool (!(← Op.equal T va vb))) : Sem Value) := by
      intro h1 h2 h3 h4
      cases va <;> first | exact absurd rfl (h1 _ _) | exact absurd rfl (h2 _) | exact absurd rfl (h3 _ _) | exact absurd rfl (h4 _ _ _) | (cases vb <;> rfl)
    cases tb with
    | int k =>
      rw [int_val hx, int_val hy, binOp_neq, Sem.run_pure]
      congr 2
    | str =>
      obtain ⟨s, rfl, rfl⟩ := str_val hx
      obtain ⟨s', rfl, rfl⟩ := str_val hy
      show (Op.stringOp .neq s s').run P w = _
      simp only [Op.stringOp, Sem.run_pure, eqv]
      rw [← bytesV_eq]
    | bool =>
      rw [gen (fun k a => by rw [bool_val hx]; simp) (fun s => by rw [bool_val hx]; simp) (fun k n => by rw [bool_val hx]; simp) (fun k n m => by rw [bool_val hx]; simp)]
      simp only [Sem.run_bind, Op.equal, Op.maxDepth, hrun, Result.andThen_ok, Sem.run_pure]
    | unit => simp [eqTyChk_unit] at hq1
    | list a => simp [Ty.eqOk] at hok
    | ptr a => simp [Ty.eqOk] at hok
    | fn => simp [Ty.eqOk] at hok
    | pair a b =>
      have e1 := hx.2
      simp only [pack, Ty.agg, if_true] at e1
      rw [gen (fun k a => by rw [← e1]; simp) (fun s => by rw [← e1]; simp) (fun k n => by rw [← e1]; simp) (fun k n m => by rw [← e1]; simp)]
      simp only [Sem.run_bind, Op.equal, Op.maxDepth, hrun, Result.andThen_ok, Sem.run_pure]
    | arr n a =>
      have e1 := hx.2
      simp only [pack, Ty.agg, if_true] at e1
      rw [gen (fun k a => by rw [← e1]; simp) (fun s => by rw [← e1]; simp) (fun k n => by rw [← e1]; simp) (fun k n m => by rw [← e1]; simp)]
      simp only [Sem.run_bind, Op.equal, Op.maxDepth, hrun, Result.andThen_ok, Sem.run_pure]
  | shl =>
    cases ta <;> simp only [binV] at h <;> try (cases h; done)
    cases tb <;> simp only at h <;> try (cases h; done)
    simp only [Option.some.injEq, Prod.mk.injEq, decide_eq_true_eq] at h
    obtain ⟨h0, rfl⟩ := h
    rw [int_val hx, int_val hy]
    refine ⟨_, ?_, vrel_int _ _ _⟩
    simp only [eqGuard_shl, Sem.run_bind, Sem.run_pure, Result.andThen_ok, binOp_shl, Op.shift]
    rw [if_neg (by omega)]
    rfl
  | shr =>
    cases ta <;> simp only [binV] at h <;> try (cases h; done)
    cases tb <;> simp only at h <;> try (cases h; done)
    simp only [Option.some.injEq, Prod.mk.injEq, decide_eq_true_eq] at h
    obtain ⟨h0, rfl⟩ := h
    rw [int_val hx, int_val hy]
    refine ⟨_, ?_, vrel_int _ _ _⟩
    simp only [eqGuard_shr, Sem.run_bind, Sem.run_pure, Result.andThen_ok, binOp_shr, Op.shift]
    rw [if_neg (by omega)]
    rfl
  | quo =>
    cases ta <;> simp only [binV] at h <;> try (cases h; done)
    cases tb <;> simp only at h <;> try (cases h; done)
    split at h
    case isFalse => cases h
    rename_i hk
    subst hk
    simp only [Option.some.injEq, Prod.mk.injEq, Bool.not_eq_true', decide_eq_false_iff_not] at h
    obtain ⟨h0, rfl⟩ := h
    rw [int_val hx, int_val hy]
    refine ⟨_, ?_, vrel_int _ _ _⟩
    simp only [eqGuard_quo, Sem.run_bind, Sem.run_pure, Result.andThen_ok, binOp_quo, Op.intDiv, h0, if_false]
  | rem =>
    cases ta <;> simp only [binV] at h <;> try (cases h; done)
    cases tb <;> simp only at h <;> try (cases h; done)
    split at h
    case isFalse => cases h
    rename_i hk
    subst hk
    simp only [Option.some.injEq, Prod.mk.injEq, Bool.not_eq_true', decide_eq_false_iff_not] at h
    obtain ⟨h0, rfl⟩ := h
    rw [int_val hx, int_val hy]
    refine ⟨_, ?_, vrel_int _ _ _⟩
    simp only [eqGuard_rem, Sem.run_bind, Sem.run_pure, Result.andThen_ok, binOp_rem, Op.intDiv, h0, if_false]
  | _ =>
    cases ta <;> simp only [binV] at h <;> try (cases h; done)
    cases tb <;> simp only at h <;> try (cases h; done)
    split at h
    case isFalse => cases h
    rename_i hk
    subst hk
    simp only [Option.some.injEq, Prod.mk.injEq, true_and] at h
    subst h
    rw [int_val hx, int_val hy]
    refine ⟨_, ?_, by first | exact vrel_int _ _ _ | exact vrel_bool _ _⟩
    first
      | (simp only [eqGuard_add, Sem.run_bind, Sem.run_pure, Result.andThen_ok, binOp_add, Op.intArith]; done)
      | (simp only [eqGuard_sub, Sem.run_bind, Sem.run_pure, Result.andThen_ok, binOp_sub, Op.intArith]; done)
      | (simp only [eqGuard_mul, Sem.run_bind, Sem.run_pure, Result.andThen_ok, binOp_mul, Op.intArith]; done)
      | (simp only [eqGuard_and, Sem.run_bind, Sem.run_pure, Result.andThen_ok, binOp_and]; rfl)
      | (simp only [eqGuard_or, Sem.run_bind, Sem.run_pure, Result.andThen_ok, binOp_or]; rfl)
      | (simp only [eqGuard_xor, Sem.run_bind, Sem.run_pure, Result.andThen_ok, binOp_xor]; rfl)
      | (simp only [eqGuard_andNot, Sem.run_bind, Sem.run_pure, Result.andThen_ok, binOp_andNot]; rfl)
      | (simp only [eqGuard_lss, Sem.run_bind, Sem.run_pure, Result.andThen_ok, binOp_lss]; done)
      | (simp only [eqGuard_leq, Sem.run_bind, Sem.run_pure, Result.andThen_ok, binOp_leq]; done)
      | (simp only [eqGuard_gtr, Sem.run_bind, Sem.run_pure, Result.andThen_ok, binOp_gtr] <;> rfl)
      | (simp only [eqGuard_geq, Sem.run_bind, Sem.run_pure, Result.andThen_ok, binOp_geq] <;> rfl)

theorem equal_nil {T e : TypeId} {A : Option Addr} {n cap : Nat} (h : P.underlying T = some (.slice e)) : (Op.equal T (.slice A n cap) (.slice none 0 0)).run P w = .ok A.isNone w := by
  show (Op.equalIn (9999 + 1) T _ _).run P w = _
  rw [Op.equalIn]
  simp only [Sem.run_bind, run_underlying h, Result.andThen_ok]
  cases A <;> rfl

theorem op_binOp {T T' : TypeId} {op : BinOp} {x y : Operand} {d : Nat} (hT : TysOk P C) (hE : EqsOk P C) (R : RelX B G F [] env ts w) (hc : Cur env c) (hg : gOf c = true) (hl : ∀ l ∈ B.lents, l.1 ≠ d)
    (h : (opSem C c ⟨some d, .binOp op T x y T', ty, pos, after, gd⟩).run c (some d) env K = some r) : OpOut P B env ts w ⟨some d, .binOp op T x y T', ty, pos, after, gd⟩ K r := by
  simp only [opSem, Rd.run_bind'] at h
  obtain ⟨sx, h, hox⟩ := opnd_run R hc hg h
  split at h
  · rename_i neg hnil
    rw [Rd.run_bind'] at h
    obtain ⟨u, f, h, hv, _⟩ := peek_run R hox h
    rw [Rd.run_bind'] at h
    obtain ⟨hty, h⟩ := Rd.run_guard h
    simp only [decide_eq_true_eq] at hty
    obtain ⟨ut, um, ux⟩ := u
    cases ut <;> simp only at h <;> try (simp at h; done)
    rename_i ea _
    rw [Rd.run_bind'] at h
    obtain ⟨hm, h⟩ := Rd.run_guard h
    obtain ⟨A, cap, hA, hA0⟩ := list_val (Md.idx_ne hm) hv
    obtain ⟨dt, ht1, ht2⟩ := (tyF (hT _ _ hty)).und
    cases dt <;> simp only [descChk] at ht2 <;> try (cases ht2; done)
    have hb : A.isNone = true → List.isEmpty (α := ea.den) ux = true := by
      intro hn
      rw [List.isEmpty_iff]
      by_cases h0 : 0 < ux.length
      · obtain ⟨a0, h1⟩ := hA0 h0
        rw [h1] at hn; cases hn
      · exact List.eq_nil_of_length_eq_zero (by omega)
    have key : (do eqGuard op T x y (evalO ts x) (evalO ts y); binOp op T (evalO ts x) (evalO ts y) : Sem Value).run P w = .ok (.bool (neg != A.isNone)) w := by
      have he := equal_nil (w := w) (A := A) (n := ux.length) (cap := cap) ht1
      unfold isNilC at hnil
      split at hnil
      · cases hnil
        rw [hA]
        show (do pure PUnit.unit; let q ← Op.equal T (.slice A ux.length cap) (.slice none 0 0); pure (.bool q) : Sem Value).run P w = _
        simp only [Sem.run_bind, Sem.run_pure, Result.andThen_ok, he]
        simp
      · cases hnil
        rw [hA]
        show (do pure PUnit.unit; let q ← Op.equal T (.slice A ux.length cap) (.slice none 0 0); pure (.bool (!q)) : Sem Value).run P w = _
        simp only [Sem.run_bind, Sem.run_pure, Result.andThen_ok, he]
        simp
      · cases hnil
    obtain ⟨F', env', g1, g2, g3⟩ := set_ref (e := .nq neg (List.isEmpty (α := ea.den) ux)) (v := .bool (neg != A.isNone)) R hc hg hl ⟨rfl, _, rfl, hb⟩ (fun _ _ => by simp) h
    refine ⟨_, _, _, _, _, .inl ?_, g1, g2, g3⟩
    simp only [execOp, Sem.run_bind] at key ⊢
    rw [key]
    rfl
  simp only [Rd.run_bind'] at h
  obtain ⟨sy, h, hoy⟩ := opnd_run R hc hg h
  obtain ⟨ta, xa, h, hva⟩ := plainV_run R hox h
  obtain ⟨tb, xb, h, hvb⟩ := plainV_run R hoy h
  obtain ⟨hq, h⟩ := Rd.run_guard h
  obtain ⟨⟨b, u⟩, hbin, h⟩ := Rd.run_opt h
  obtain ⟨hb, h⟩ := Rd.run_check hg h
  obtain ⟨v, hrun, hv⟩ := binV_run (x := x) (y := y) hT hE hq hbin hb hva hvb
  obtain ⟨F', env', g1, g2, g3⟩ := set_plain R hc hg hl hv h
  refine ⟨_, _, _, _, _, .inl ?_, g1, g2, g3⟩
  simp only [execOp, Sem.run_bind] at hrun ⊢
  rw [hrun]
  rfl

theorem op_unOp {T : TypeId} {op : UnOp} {x : Operand} {d : Nat} (R : RelX B G F [] env ts w) (hc : Cur env c) (hg : gOf c = true) (hl : ∀ l ∈ B.lents, l.1 ≠ d)
    (h : (opSem C c ⟨some d, .unOp op T x, ty, pos, after, gd⟩).run c (some d) env K = some r) : OpOut P B env ts w ⟨some d, .unOp op T x, ty, pos, after, gd⟩ K r := by
  simp only [opSem, Rd.run_bind'] at h
  obtain ⟨sx, h, hox⟩ := opnd_run R hc hg h
  obtain ⟨ta, xa, h, hva⟩ := plainV_run R hox h
  obtain ⟨u, hu, h⟩ := Rd.run_opt h
  have : ∃ v, (Op.unary op (evalO ts x)).run P w = .ok v w ∧ vrel G w u.t u.m u.x v [] := by
    cases op <;> cases ta <;> simp only [unV] at hu <;> try (cases hu; done)
    · cases hu
      rw [int_val hva]
      exact ⟨_, rfl, vrel_int _ _ _⟩
    · cases hu
      rw [bool_val hva]
      exact ⟨_, rfl, vrel_bool _ _⟩
  obtain ⟨v, hrun, hv⟩ := this
  obtain ⟨F', env', g1, g2, g3⟩ := set_plain R hc hg hl hv h
  refine ⟨_, _, _, _, _, .inl ?_, g1, g2, g3⟩
  simp only [execOp, Sem.run_bind, hrun, Result.andThen_ok]
  rfl

theorem op_convert {S T : TypeId} {x : Operand} {d : Nat} (hT : TysOk P C) (R : RelX B G F [] env ts w) (hc : Cur env c) (hg : gOf c = true) (hl : ∀ l ∈ B.lents, l.1 ≠ d)
    (h : (opSem C c ⟨some d, .convert S T x, ty, pos, after, gd⟩).run c (some d) env K = some r) : OpOut P B env ts w ⟨some d, .convert S T x, ty, pos, after, gd⟩ K r := by
  simp only [opSem, Rd.run_bind'] at h
  obtain ⟨t, ht, h⟩ := Rd.run_opt h
  obtain ⟨sx, h, hox⟩ := opnd_run R hc hg h
  obtain ⟨ta, xa, h, hva⟩ := plainV_run R hox h
  obtain ⟨hS, h⟩ := Rd.run_guard h
  simp only [decide_eq_true_eq] at hS
  obtain ⟨u, hu, h⟩ := Rd.run_opt h
  obtain ⟨ds, hs1, hs2⟩ := (tyF (hT _ _ hS)).und
  obtain ⟨dt, ht1, ht2⟩ := (tyF (hT _ _ ht)).und
  have : ∃ v, (convert S T (evalO ts x)).run P w = .ok v w ∧ vrel G w u.t u.m u.x v [] := by
    cases t <;> cases ta <;> simp only [convV] at hu <;> try (cases hu; done)
    · cases hu
      rw [int_val hva]
      cases dt <;> simp only [descChk] at ht2 <;> try (cases ht2; done)
      simp only [beq_iff_eq] at ht2
      subst ht2
      refine ⟨_, ?_, vrel_int _ _ _⟩
      simp [convert, run_underlying hs1, run_underlying ht1, Conv.intToInt]
    · cases hu
      obtain ⟨s, hs, rfl⟩ := str_val hva
      rw [hs]
      cases dt <;> simp only [descChk] at ht2 <;> try (cases ht2; done)
      cases ds <;> simp only [descChk] at hs2 <;> try (cases hs2; done)
      refine ⟨.string s, ?_, ⟨⟨⟨s, rfl, rfl⟩, rfl⟩, rfl⟩⟩
      simp [convert, run_underlying hs1, run_underlying ht1]
  obtain ⟨v, hrun, hv⟩ := this
  obtain ⟨F', env', g1, g2, g3⟩ := set_plain R hc hg hl hv h
  refine ⟨_, _, _, _, _, .inl ?_, g1, g2, g3⟩
  simp only [execOp, Sem.run_bind, hrun, Result.andThen_ok]
  rfl

theorem op_len {xs : Array Operand} {Ts : Array TypeId} {d : Nat} (hT : TysOk P C) (R : RelX B G F [] env ts w) (hc : Cur env c) (hg : gOf c = true) (hl : ∀ l ∈ B.lents, l.1 ≠ d)
    (h : (opSem C c ⟨some d, .call ⟨.builtin .len, xs, Ts⟩, ty, pos, after, gd⟩).run c (some d) env K = some r) : OpOut P B env ts w ⟨some d, .call ⟨.builtin .len, xs, Ts⟩, ty, pos, after, gd⟩ K r := by
  simp only [opSem] at h
  split at h
  case h_2 => simp at h
  rename_i x T hxs hTs
  obtain ⟨rfl⟩ : xs = #[x] := by cases xs; simp_all
  obtain ⟨rfl⟩ : Ts = #[T] := by cases Ts; simp_all
  simp only [Rd.run_bind'] at h
  obtain ⟨t, ht, h⟩ := Rd.run_opt h
  obtain ⟨sl, h, ho⟩ := opnd_run R hc hg h
  obtain ⟨u, f, h, hv, _⟩ := peek_run R ho h
  obtain ⟨hut, hk⟩ := Rd.run_guard h
  simp only [decide_eq_true_eq] at hut
  obtain ⟨dt, ht1, ht2⟩ := (tyF (hT _ _ ht)).und
  have fin : ∀ n : Nat, (Builtin.len_ #[T] ty #[evalO ts x]).run P w = .ok (.int .i64 n) w → (Rd.set d true (.val (.int .i64) .s (n : Int))).run c (some d) env K = some r →
      OpOut P B env ts w ⟨some d, .call ⟨.builtin .len, #[x], #[T]⟩, ty, pos, after, gd⟩ K r := by
    intro n hrun h
    obtain ⟨F', env', g1, g2, g3⟩ := set_plain (t := .int .i64) (m := .s) R hc hg hl (vrel_int .i64 n .s) h
    refine ⟨_, _, _, _, _, .inl ?_, g1, g2, g3⟩
    simp only [execOp, resolve, Array.map_singleton, Sem.run_bind, Sem.run_pure, Result.andThen_ok, invoke, builtin, hrun]
  obtain ⟨ut, um, ux⟩ := u
  simp only at hut
  subst hut
  cases ut <;> simp only at hk <;> try (simp at hk; done)
  · obtain ⟨s, hs, rfl⟩ := str_val hv
    cases dt <;> simp only [descChk] at ht2 <;> try (cases ht2; done)
    refine fin (bytesV s).length ?_ hk
    simp [Builtin.len_, hs, run_underlying ht1, goInt, bytesV]
  · rw [Rd.run_bind'] at hk
    obtain ⟨hm, hk⟩ := Rd.run_guard hk
    obtain ⟨A, cap, hA, _⟩ := list_val (by intro e; subst e; simp [Md.noHole] at hm) hv
    cases dt <;> simp only [descChk] at ht2 <;> try (cases ht2; done)
    refine fin ux.length ?_ hk
    simp [Builtin.len_, hA, run_underlying ht1, goInt]

theorem op_max {xs : Array Operand} {Ts : Array TypeId} {d : Nat} (R : RelX B G F [] env ts w) (hc : Cur env c) (hg : gOf c = true) (hl : ∀ l ∈ B.lents, l.1 ≠ d)
    (h : (opSem C c ⟨some d, .call ⟨.builtin .max, xs, Ts⟩, ty, pos, after, gd⟩).run c (some d) env K = some r) : OpOut P B env ts w ⟨some d, .call ⟨.builtin .max, xs, Ts⟩, ty, pos, after, gd⟩ K r := by
  simp only [opSem] at h
  split at h
  case h_2 => simp at h
  rename_i x y hxs
  obtain ⟨rfl⟩ : xs = #[x, y] := by cases xs; simp_all
  simp only [Rd.run_bind'] at h
  obtain ⟨sx, h, hox⟩ := opnd_run R hc hg h
  obtain ⟨sy, h, hoy⟩ := opnd_run R hc hg h
  obtain ⟨ta, xa, h, hva⟩ := plainV_run R hox h
  obtain ⟨tb, xb, hk, hvb⟩ := plainV_run R hoy h
  cases ta <;> cases tb <;> simp only at hk <;> try (simp at hk; done)
  rw [Rd.run_bind'] at hk
  obtain ⟨_, hk⟩ := Rd.run_guard hk
  obtain ⟨F', env', g1, g2, g3⟩ := set_plain R hc hg hl (vrel_int _ _ .s) hk
  refine ⟨_, _, _, _, _, .inl ?_, g1, g2, g3⟩
  simp only [execOp, resolve, List.map_toArray, List.map_cons, List.map_nil, Sem.run_bind, Sem.run_pure, Result.andThen_ok, invoke, builtin, int_val hva, int_val hvb, run_max_int2]
  congr 3
  by_cases hlt : (xa : Int) < xb
  · simp [hlt]
  · simp [hlt]

theorem op_min {xs : Array Operand} {Ts : Array TypeId} {d : Nat} (R : RelX B G F [] env ts w) (hc : Cur env c) (hg : gOf c = true) (hl : ∀ l ∈ B.lents, l.1 ≠ d)
    (h : (opSem C c ⟨some d, .call ⟨.builtin .min, xs, Ts⟩, ty, pos, after, gd⟩).run c (some d) env K = some r) : OpOut P B env ts w ⟨some d, .call ⟨.builtin .min, xs, Ts⟩, ty, pos, after, gd⟩ K r := by
  simp only [opSem] at h
  split at h
  case h_2 => simp at h
  rename_i x y hxs
  obtain ⟨rfl⟩ : xs = #[x, y] := by cases xs; simp_all
  simp only [Rd.run_bind'] at h
  obtain ⟨sx, h, hox⟩ := opnd_run R hc hg h
  obtain ⟨sy, h, hoy⟩ := opnd_run R hc hg h
  obtain ⟨ta, xa, h, hva⟩ := plainV_run R hox h
  obtain ⟨tb, xb, hk, hvb⟩ := plainV_run R hoy h
  cases ta <;> cases tb <;> simp only at hk <;> try (simp at hk; done)
  rw [Rd.run_bind'] at hk
  obtain ⟨_, hk⟩ := Rd.run_guard hk
  obtain ⟨F', env', g1, g2, g3⟩ := set_plain R hc hg hl (vrel_int _ _ .s) hk
  refine ⟨_, _, _, _, _, .inl ?_, g1, g2, g3⟩
  simp only [execOp, resolve, List.map_toArray, List.map_cons, List.map_nil, Sem.run_bind, Sem.run_pure, Result.andThen_ok, invoke, builtin, int_val hva, int_val hvb, run_min_int2]
  congr 3
  by_cases hlt : (xb : Int) < xa
  · simp [hlt]
  · simp [hlt]

theorem tupRel_get : ∀ (es : List TV) (vs : List Value) (f : List Res) (i : Nat) (e : TV), tupRel G w es vs f → es[i]? = some e →
    ∃ v pre g post, vs[i]? = some v ∧ f = pre ++ (g ++ post) ∧ vrel G w e.t e.m e.x v g ∧ ∀ e' g', vrel G w e'.t e'.m e'.x v g' → tupRel G w (es.set i e') vs (pre ++ (g' ++ post))
  | [], _, _, i, e, _, h => by simp at h
  | a :: es, [], _, _, _, h, _ => h.elim
  | a :: es, v :: vs, f, 0, e, h, he => by
    obtain ⟨f1, f2, h1, h2, rfl⟩ := h
    simp only [List.getElem?_cons_zero, Option.some.injEq] at he
    subst he
    exact ⟨v, [], f1, f2, rfl, rfl, h1, fun e' g' h' => ⟨g', f2, h', h2, rfl⟩⟩
  | a :: es, v :: vs, f, i + 1, e, h, he => by
    obtain ⟨f1, f2, h1, h2, rfl⟩ := h
    simp only [List.getElem?_cons_succ] at he
    obtain ⟨v', pre, g, post, g1, rfl, g3, g4⟩ := tupRel_get es vs f2 i e h2 he
    refine ⟨v', f1 ++ pre, g, post, by simpa using g1, by simp, g3, fun e' g' h' => ?_⟩
    exact ⟨f1, pre ++ (g' ++ post), h1, g4 e' g' h', by simp⟩

theorem op_extract {x : Operand} {i d : Nat} (R : RelX B G F [] env ts w) (hc : Cur env c) (hg : gOf c = true) (hl : ∀ l ∈ B.lents, l.1 ≠ d)
    (h : (opSem C c ⟨some d, .extract x i, ty, pos, after, gd⟩).run c (some d) env K = some r) : OpOut P B env ts w ⟨some d, .extract x i, ty, pos, after, gd⟩ K r := by
  simp only [opSem] at h
  cases hs : slotOf x with
  | none => simp [hs] at h
  | some s =>
    simp only [hs, Rd.run_bind', Rd.run_slot] at h
    split at h
    case h_2 => simp at h
    rename_i es he
    rw [Rd.run_bind'] at h
    obtain ⟨u, hu, h⟩ := Rd.run_opt h
    have hlt := Env.get_lt he (by simp)
    have hrel := R.slot s hlt
    rw [he] at hrel
    obtain ⟨vs, hvs, htup⟩ := hrel
    have hval : evalO ts x = ts.getD s undef := by cases x <;> simp only [slotOf] at hs <;> cases hs; rfl
    obtain ⟨v, pre, g, post, g1, g2, g3, g4⟩ := tupRel_get es _ _ i u htup hu
    have hex : (execOp (evalO ts) ⟨some d, .extract x i, ty, pos, after, gd⟩).run P w = .ok (.value v) w := by
      simp only [execOp, hval, hvs, Instr.extract]
      have : vs[i]? = some v := by rw [← Array.getElem?_toList]; exact g1
      rw [this]
      rfl
    split at h
    · rename_i hp
      have hm := plain_md hp
      obtain ⟨ut, um, ux⟩ := u
      simp only at hm
      subst hm
      have hf := rep_s_fp _ _ _ _ g3.1
      subst hf
      obtain ⟨F', env', k1, k2, k3⟩ := set_plain R hc hg hl g3 h
      exact ⟨_, _, _, _, _, .inl hex, k1, k2, k3⟩
    · simp only [Rd.run_bind'] at h
      obtain ⟨hh, h⟩ := Rd.run_guard h
      obtain ⟨hcn, h⟩ := Rd.run_move (by simp) h
      subst hcn
      have hsub : (pre ++ post).Sublist (F s) := by rw [g2]; exact List.Sublist.append (List.Sublist.refl _) (List.sublist_append_right _ _)
      have hsubg : g.Sublist (F s) := by rw [g2]; exact List.Sublist.trans (List.sublist_append_left _ _) (List.sublist_append_right _ _)
      have R1 := R.setSlot (d := s) (e := .tup (es.set i ⟨u.t, .h, u.x⟩)) (c := ts.getD s undef) (f := pre ++ post) hlt
        ⟨vs, hvs, by simpa using g4 ⟨u.t, .h, u.x⟩ [] ⟨rep_hole _ _ _ _ _ g3.1, g3.2⟩⟩ ((R.nd s).sub hsub) (fun j hj r hr q hq => R.ap s j (Ne.symm hj) r (hsub.subset hr) q hq) (fun q hq => R.ok s q (hsub.subset hq)) (fun _ _ h => by cases h) (fun _ _ _ _ _ _ h => by cases h)
      rw [set_getD_self] at R1
      have ndF := R.nd s
      rw [g2] at ndF
      obtain ⟨_, nd2, nd3⟩ := ND.append.1 ndF
      obtain ⟨ndg, _, nd4⟩ := ND.append.1 nd2
      have R2 := R1.hold (v := u) (c := v) (f := g) g3 ndg (fun j => ?_) (fun q hq => R.ok s q (hsubg.subset hq))
      · obtain ⟨F', env', k1, k2, k3⟩ := set_val R2 Cur.nil rfl hl h
        exact ⟨_, _, _, _, _, .inl hex, k1, k2, k3.trans (Env.length_put _ _)⟩
      · by_cases hj : j = s
        · subst hj
          rw [upd_same]
          intro a ha q hq
          rcases List.mem_append.1 hq with hq | hq
          · exact (nd3 q hq a (by simp [ha])).symm
          · exact nd4 a ha q hq
        · rw [upd_other F _ hj]
          exact fun a ha q hq => R.ap s j (Ne.symm hj) a (hsubg.subset ha) q hq

end
end Go.VL

namespace Go.VL

theorem repA_append {α : Type} {R : α → List Value → List Res → Prop} : ∀ (xs ys : List α) (c1 c2 : List Value) (f1 f2 : List Res), repA R xs c1 f1 → repA R ys c2 f2 → repA R (xs ++ ys) (c1 ++ c2) (f1 ++ f2)
  | [], ys, c1, c2, f1, f2, h1, h2 => by obtain ⟨rfl, rfl⟩ := h1; exact h2
  | x :: xs, ys, c1, c2, f1, f2, h1, h2 => by
    obtain ⟨ca, cb, fa, fb, ha, hb, rfl, rfl⟩ := h1
    exact ⟨ca, cb ++ c2, fa, fb ++ f2, ha, repA_append xs ys cb c2 fb f2 hb h2, by simp, by simp⟩

theorem repA_len {α : Type} {R : α → List Value → List Res → Prop} {sz : Nat} (hlen : ∀ x c f, R x c f → c.length = sz) : ∀ (xs : List α) (cs : List Value) (f : List Res), repA R xs cs f → cs.length = xs.length * sz
  | [], cs, f, h => by obtain ⟨rfl, rfl⟩ := h; simp
  | x :: xs, cs, f, h => by
    obtain ⟨ca, cb, fa, fb, ha, hb, rfl, rfl⟩ := h
    simp [hlen _ _ _ ha, repA_len hlen xs cb fb hb, Nat.add_mul, Nat.add_comm]

theorem repA_one {α : Type} {R : α → List Value → List Res → Prop} (h1 : ∀ x c f, R x c f → ∀ v ∈ c, v.oneCell' = true) : ∀ (xs : List α) (cs : List Value) (f : List Res), repA R xs cs f → ∀ v ∈ cs, v.oneCell' = true
  | [], cs, f, h => by obtain ⟨rfl, rfl⟩ := h; simp
  | x :: xs, cs, f, h => by
    obtain ⟨ca, cb, fa, fb, ha, hb, rfl, rfl⟩ := h
    intro v hv
    rcases List.mem_append.1 hv with hv | hv
    · exact h1 _ _ _ ha v hv
    · exact repA_one h1 xs cb fb hb v hv

/-- cells that lie in a block, as elements there -/
theorem repL_of_cells {α : Type} {R : α → List Value → List Res → Prop} {w : World} {sz b : Nat} (hlen : ∀ x c f, R x c f → c.length = sz) : ∀ (xs : List α) (cs : List Value) (f : List Res) (o : Nat),
    repA R xs cs f → cellsAt w ⟨b, o, none⟩ cs → repL R w sz b o xs f
  | [], cs, f, o, h, _ => h.2
  | x :: xs, cs, f, o, h, hc => by
    obtain ⟨ca, cb, fa, fb, ha, hb, rfl, rfl⟩ := h
    obtain ⟨h1, h2⟩ := cellsAt_append.1 hc
    rw [hlen _ _ _ ha, add_mk] at h2
    exact ⟨ca, fa, fb, h1, ha, repL_of_cells hlen xs cb fb (o + sz) hb h2, rfl⟩

theorem cells_of_repL {α : Type} {R : α → List Value → List Res → Prop} {w : World} {sz b : Nat} (hlen : ∀ x c f, R x c f → c.length = sz) : ∀ (xs : List α) (f : List Res) (o : Nat),
    repL R w sz b o xs f → ∃ cs, repA R xs cs f ∧ cellsAt w ⟨b, o, none⟩ cs
  | [], f, o, h => ⟨[], ⟨rfl, h⟩, cellsAt_nil⟩
  | x :: xs, f, o, h => by
    obtain ⟨c, f1, f2, hc, hx, hl, rfl⟩ := h
    obtain ⟨cs, h1, h2⟩ := cells_of_repL hlen xs f2 (o + sz) hl
    exact ⟨c ++ cs, ⟨c, cs, f1, f2, hx, h1, rfl, rfl⟩, cellsAt_append.2 ⟨hc, by rw [hlen _ _ _ hx, add_mk]; exact h2⟩⟩

theorem repL_append {α : Type} {R : α → List Value → List Res → Prop} {w : World} {sz b : Nat} : ∀ (xs ys : List α) (f g : List Res) (o : Nat), repL R w sz b o xs f → repL R w sz b (o + xs.length * sz) ys g → repL R w sz b o (xs ++ ys) (f ++ g)
  | [], ys, f, g, o, h, h2 => by
    have : f = [] := h
    subst this
    simpa using h2
  | x :: xs, ys, f, g, o, h, h2 => by
    obtain ⟨c, f1, f2, hc, hx, hl, rfl⟩ := h
    refine ⟨c, f1, f2 ++ g, hc, hx, ?_, by simp⟩
    refine repL_append xs ys f2 g (o + sz) hl ?_
    rwa [show o + sz + xs.length * sz = o + (x :: xs).length * sz by simp [Nat.add_mul]; omega]

section
variable {P : Program} {C : Ctx} {B : Base} {G : Nat → Prop} {F : Nat → List Res} {H : List (TV × Value)} {env : Env} {ts : List Value} {w : World}
variable {ρ : Type} {c : List GI} {K : Unit → Env → Option ρ} {r : ρ} {ty : TypeId} {pos : String} {after : Array Edge} {gd : Option (Nat × Bool)}

/-- a list of plain elements: the cells that hold them -/
theorem list_cells {a : Ty} {m : Md} {xs : List a.den} {v : Value} {f : List Res} (hm : m.e.plain = true) (h : vrel G w (.list a) m xs v f) :
    ∃ cs A cap, v = .slice A xs.length cap ∧ repA (rep G w a .s) xs cs [] ∧ (xs = [] ∨ ∃ ad, A = some ad ∧ cellsAt w ad cs) := by
  have hlen : ∀ (x : a.den) c f, rep G w a .s x c f → c.length = a.sz := fun x c f h => rep_len _ _ _ _ _ h
  have hm' := plain_md hm
  obtain ⟨h, hv⟩ := h
  simp only [unpack, Ty.agg, if_false, Bool.false_eq_true] at h
  have shared : ∀ A cap, [v] = [Value.slice A xs.length cap] → (∀ i (h : i < xs.length), ∃ (ad : Addr) (c : List Value), A = some ad ∧ G ad.block ∧ cellsAt w (ad.add (i * a.sz)) c ∧ rep G w a .s xs[i] c []) →
      ∃ cs A cap, v = .slice A xs.length cap ∧ repA (rep G w a .s) xs cs [] ∧ (xs = [] ∨ ∃ ad, A = some ad ∧ cellsAt w ad cs) := by
    intro A cap hv hh
    simp only [List.cons.injEq, and_true] at hv
    cases A with
    | none =>
      cases xs with
      | nil => exact ⟨[], none, cap, hv, ⟨rfl, rfl⟩, .inl rfl⟩
      | cons x xs => obtain ⟨ad, c, h, _⟩ := hh 0 (by simp); cases h
    | some A =>
      have key : ∀ (ys : List a.den) (ad : Addr), (∀ i (h : i < ys.length), ∃ c, cellsAt w (ad.add (i * a.sz)) c ∧ rep G w a .s ys[i] c []) → ∃ cs, repA (rep G w a .s) ys cs [] ∧ cellsAt w ad cs := by
        intro ys
        induction ys with
        | nil => intro ad _; exact ⟨[], ⟨rfl, rfl⟩, cellsAt_nil⟩
        | cons y ys ih =>
          intro ad h
          obtain ⟨c0, hc0, hr0⟩ := h 0 (by simp)
          obtain ⟨cs, h1, h2⟩ := ih (ad.add a.sz) (fun i hi => by
            obtain ⟨c, hc, hr⟩ := h (i + 1) (by simpa using hi)
            refine ⟨c, ?_, by simpa using hr⟩
            rw [add_add]
            rwa [show a.sz + i * a.sz = (i + 1) * a.sz by rw [Nat.add_mul]; omega])
          refine ⟨c0 ++ cs, ⟨c0, cs, [], [], hr0, h1, rfl, rfl⟩, cellsAt_append.2 ⟨?_, by rw [hlen _ _ _ hr0]; exact h2⟩⟩
          simpa [Addr.add] using hc0
      obtain ⟨cs, h1, h2⟩ := key xs A (fun i hi => by
        obtain ⟨ad, c, ha, _, hc, hr⟩ := hh i hi
        cases ha
        exact ⟨c, hc, hr⟩)
      exact ⟨cs, some A, cap, hv, h1, .inr ⟨A, rfl, h2⟩⟩
  cases m with
  | h => simp [Md.e, Md.plain] at hm
  | s => obtain ⟨⟨A, cap, hv, _, hh⟩, _⟩ := h; exact shared A cap hv hh
  | p _ _ => obtain ⟨⟨A, cap, hv, _, hh⟩, _⟩ := h; exact shared A cap hv hh
  | o m =>
    simp only [Md.e] at hm'
    subst hm'
    rcases h with ⟨rfl, h, _⟩ | ⟨b, o, cap, fs, h, _, _, _, hr⟩
    · simp only [List.cons.injEq, and_true] at h
      exact ⟨[], none, 0, h, ⟨rfl, rfl⟩, .inl rfl⟩
    · simp only [List.cons.injEq, and_true] at h
      obtain ⟨cs, h1, h2⟩ := cells_of_repL hlen xs fs o hr
      have hfs : fs = [] := by
        have : ∀ (ys : List a.den) cs fs, repA (rep G w a .s) ys cs fs → fs = [] := by
          intro ys
          induction ys with
          | nil => intro cs fs h; exact h.2
          | cons y ys ih => intro cs fs h; obtain ⟨_, _, f1, f2, ha, hb, rfl, rfl⟩ := h; rw [rep_s_fp _ _ _ _ ha, ih _ _ hb]; rfl
        exact this _ _ _ h1
      subst hfs
      exact ⟨cs, _, cap, h, h1, .inr ⟨_, rfl, h2⟩⟩

theorem nextcap_le (need old : Nat) (h : old < need) (hn : need < 1073741824) : Builtin.nextslicecap need old ≤ 3000000000 := by
  unfold Builtin.nextslicecap
  split
  · omega
  · split
    · omega
    · have key : ∀ (k c : Nat), c ≤ 1500000000 → Builtin.growBy need k c ≤ 3000000000 := by
        intro k
        induction k with
        | zero => intro c hc; simp [Builtin.growBy]; omega
        | succ k ih =>
          intro c hc
          unfold Builtin.growBy
          split
          · omega
          · exact ih _ (by omega)
      exact key 4 old (by omega)

theorem run_firstCells {sz n : Nat} {A : Option Addr} {l cap : Nat} {cs : List Value} (hl : cs.length = n * sz) (h : cs = [] ∨ ∃ ad, A = some ad ∧ cellsAt w ad cs) :
    (Builtin.firstCells sz n (.slice A l cap)).run P w = .ok cs.toArray w := by
  cases A with
  | none =>
    rcases h with rfl | ⟨ad, h, _⟩
    · rfl
    · cases h
  | some ad =>
    simp only [Builtin.firstCells]
    rw [← hl]
    refine run_loadCells_list w ad cs ?_
    rcases h with rfl | ⟨ad', h, hc⟩
    · intro j v hj; simp at hj
    · cases h; exact hc

theorem op_append {xs : Array Operand} {Ts : Array TypeId} {d : Nat} (hT : TysOk P C) (R : RelX B G F [] env ts w) (hc : Cur env c) (hg : gOf c = true) (hl : ∀ l ∈ B.lents, l.1 ≠ d)
    (h : (opSem C c ⟨some d, .call ⟨.builtin .append, xs, Ts⟩, ty, pos, after, gd⟩).run c (some d) env K = some r) : OpOut P B env ts w ⟨some d, .call ⟨.builtin .append, xs, Ts⟩, ty, pos, after, gd⟩ K r := by
  simp only [opSem] at h
  split at h
  case h_2 => simp at h
  rename_i x y T T' hxs hTs
  obtain ⟨rfl⟩ : xs = #[x, y] := by cases xs; simp_all
  obtain ⟨rfl⟩ : Ts = #[T, T'] := by cases Ts; simp_all
  split at h
  case h_2 => simp at h
  rename_i a a' hTa hTa'
  simp only [Rd.run_bind'] at h
  obtain ⟨sx, h, hox⟩ := opnd_run R hc hg h
  obtain ⟨u, F1, env1, h, R1, hlen1, hce⟩ := take_run R hox h
  split at h
  case h_2 => simp at h
  rename_i b zs0
  have hc1 := hc.moved hce
  simp only [Rd.run_bind'] at h
  obtain ⟨sy, h, hoy⟩ := opnd_run R1 hc1 hg h
  obtain ⟨u2, f2, h, hvy, _⟩ := peek_run R1 hoy h
  split at h
  case h_2 => simp at h
  rename_i b' m' ys0
  rw [Rd.run_bind'] at h
  obtain ⟨hgd, h⟩ := Rd.run_guard h
  simp only [Bool.and_eq_true, decide_eq_true_eq] at hgd
  obtain ⟨hba, hmp⟩ := hgd
  rw [Rd.run_bind'] at h
  obtain ⟨ys, hys, h⟩ := Rd.run_opt h
  rw [Rd.run_bind'] at h
  obtain ⟨hbd, hk⟩ := Rd.run_check hg h
  simp only [decide_eq_true_eq] at hbd
  subst hba
  obtain ⟨e, hye⟩ := castV_eq hys
  simp only [Ty.list.injEq] at e
  subst e
  have hye : ys0 = ys := hye
  subst hye
  -- the types
  have hTf := tyF (hT _ _ hTa)
  obtain ⟨dsc, hd1, hd2⟩ := hTf.und
  cases dsc <;> simp only [descChk] at hd2 <;> try (cases hd2; done)
  rename_i el
  simp only [Bool.and_eq_true, bne_iff_ne] at hd2
  obtain ⟨hd3, hd4⟩ := hd2
  have hel : C.ty el = some b' := by
    split at hd3
    · rename_i a' ha; simp only [decide_eq_true_eq] at hd3; rw [ha, hd3]
    · cases hd3
  have hEf := tyF (hT _ _ hel)
  obtain ⟨dsc', hd1', hd2'⟩ := (tyF (hT _ _ hTa')).und
  cases dsc' <;> simp only [descChk] at hd2' <;> try (cases hd2'; done)
  obtain ⟨inf, hinf, hby⟩ := hEf.bytes
  obtain ⟨zc, hzc, hzz⟩ := hEf.zero
  have hzrep : rep G w b' (zmd b') b'.zero zc [] := isZ_rep b' zc hzz
  have hzlen := rep_len _ _ _ _ _ hzrep
  have hzcells : (pack b' zc).cells.size = b'.sz := by
    have := congrArg List.length (pack_cells hzlen (rep_one _ _ _ _ _ hzrep))
    rw [Array.length_toList] at this
    rw [this, hzlen]
  -- the values
  have hvx : vrel G w (.list b') (.o .s) zs0 (evalO ts x) (F1 (env1.length + 0)) := R1.held 0 (⟨.list b', .o .s, zs0⟩, evalO ts x) (by simp)
  obtain ⟨csy, Ay, capy, hvy1, hry, hcy⟩ := list_cells hmp hvy
  have lenR : ∀ (x : b'.den) c f, rep G w b' .s x c f → c.length = b'.sz := fun x c f h => rep_len _ _ _ _ _ h
  have oneR : ∀ (x : b'.den) c f, rep G w b' .s x c f → ∀ v ∈ c, v.oneCell' = true := fun x c f h => rep_one _ _ _ _ _ h
  have hly := repA_len lenR ys0 csy [] hry
  have hcy' : csy = [] ∨ ∃ ad, Ay = some ad ∧ cellsAt w ad csy := by
    rcases hcy with rfl | h
    · exact .inl (by obtain ⟨h, _⟩ := hry; exact h)
    · exact .inr h
  have hxr := hvx.1
  simp only [unpack, Ty.agg, if_false, Bool.false_eq_true] at hxr
  have hres : evalO ts (Operand.const (.bool true)) = .bool true := rfl
  -- what is common to both ways
  have fin : ∀ (v : Value) (w' : World) (F2 : Nat → List Res), (Builtin.append_ #[T, T'] ty #[evalO ts x, evalO ts y]).run P w = .ok v w' →
      RelX B G F2 [(⟨.list b', .o .s, zs0 ++ ys0⟩, v)] env1 ts w' → OpOut P B env ts w ⟨some d, .call ⟨.builtin .append, #[x, y], #[T, T']⟩, ty, pos, after, gd⟩ K r := by
    intro v w' F2 hrun R2
    obtain ⟨F', env', k1, k2, k3⟩ := set_val R2 hc1 hg hl hk
    refine ⟨_, _, _, _, _, .inl ?_, k1, k2, k3.trans hlen1⟩
    simp only [execOp, resolve, List.map_toArray, List.map_cons, List.map_nil, Sem.run_bind, Sem.run_pure, Result.andThen_ok, invoke, builtin, hrun]
  have oldx : ∃ csx Ax capx, evalO ts x = .slice Ax zs0.length capx ∧ zs0.length ≤ capx ∧ repA (rep G w b' .s) zs0 csx [] ∧ (csx = [] ∨ ∃ ad, Ax = some ad ∧ cellsAt w ad csx) ∧
      ((Ax = none ∧ zs0 = [] ∧ capx = 0) ∨ ∃ bb oo, Ax = some ⟨bb, oo, none⟩ ∧ F1 (env1.length + 0) = [⟨bb, oo, oo + capx * b'.sz⟩] ∧ spanOk w bb (oo + capx * b'.sz) ∧ repL (rep G w b' .s) w b'.sz bb oo zs0 []) := by
    rcases hxr with ⟨hz, hxv, _⟩ | ⟨bb, oo, cap, fs, hxv, hlc, hfp, hsp, hr⟩
    · simp only [List.cons.injEq, and_true] at hxv
      subst hz
      exact ⟨[], none, 0, hxv, Nat.le_refl _, ⟨rfl, rfl⟩, .inl rfl, .inl ⟨rfl, rfl, rfl⟩⟩
    · simp only [List.cons.injEq, and_true] at hxv
      obtain ⟨csx, h1, h2⟩ := cells_of_repL lenR zs0 fs oo hr
      have hfs : fs = [] := by
        have : ∀ (ys : List b'.den) cs fs, repA (rep G w b' .s) ys cs fs → fs = [] := by
          intro ys
          induction ys with
          | nil => intro cs fs h; exact h.2
          | cons y ys ih => intro cs fs h; obtain ⟨_, _, f1, f2, ha, hb, rfl, rfl⟩ := h; rw [rep_s_fp _ _ _ _ ha, ih _ _ hb]; rfl
        exact this _ _ _ h1
      subst hfs
      exact ⟨csx, _, cap, hxv, hlc, h1, .inr ⟨_, rfl, h2⟩, .inr ⟨bb, oo, rfl, hfp, hsp, hr⟩⟩
  obtain ⟨csx, Ax, capx, hxv, hlc, hrx, hcx, hown⟩ := oldx
  have hlx := repA_len lenR zs0 csx [] hrx
  by_cases hfit : zs0.length + ys0.length ≤ capx
  · -- there is room
    rcases hown with ⟨rfl, rfl, rfl⟩ | ⟨bb, oo, rfl, hfp, hsp, hrl⟩
    · have hy0 : ys0 = [] := List.eq_nil_of_length_eq_zero (by simpa using hfit)
      subst hy0
      obtain ⟨hcs0, _⟩ := hry
      subst hcs0
      refine fin _ w F1 ?_ R1
      rw [hxv, hvy1]
      simp [Builtin.append_, run_underlying hd1, run_underlying hd1', hEf.size, Builtin.lenOf, run_firstCells (P := P) (sz := b'.sz) (n := 0) (A := Ay) (l := 0) (cap := capy) (cs := []) (w := w) (by simp) (.inl rfl)]
    · obtain ⟨w', hst, htn, hcn⟩ := run_storeCells (P := P) csy w bb (oo + zs0.length * b'.sz) 0 (hsp.mono (by
        rw [hly]
        have : (zs0.length + ys0.length) * b'.sz ≤ capx * b'.sz := Nat.mul_le_mul_right _ hfit
        rw [Nat.add_mul] at this
        omega)) (repA_one oneR ys0 csy [] hry)
      simp only [Nat.add_zero] at htn hcn
      have hr0 : (⟨bb, oo, oo + capx * b'.sz⟩ : Res) ∈ F1 (env1.length + 0) := by rw [hfp]; simp
      have hok0 := R1.ok _ _ hr0
      have hXG : ∀ p i, rng bb (oo + zs0.length * b'.sz) csy.length p i → ¬ G p := fun p i hx => by rw [hx.1]; exact hok0.1
      have hle : zs0.length * b'.sz + csy.length ≤ capx * b'.sz := by
        rw [hly, ← Nat.add_mul]; exact Nat.mul_le_mul_right _ hfit
      have R2 := (RelX.dropHeld (H := []) R1).world htn hXG (fun p i hx j => by
        unfold upd
        split
        · rintro ⟨q, hq, _⟩; simp at hq
        · rename_i hj
          rintro ⟨q, hq, e⟩
          exact R1.ap _ j (Ne.symm hj) _ hr0 q hq (by rw [e]; exact hx.1.symm)) (fun p i hp hx => by
            obtain ⟨e1, e2, e3⟩ := hx
            rcases hok0.2.2 with h | ⟨z, hz, z1, z2, z3⟩
            · simp at h; omega
            · exact ⟨z, hz, by rw [z1]; exact e1.symm, by simp at z2; omega, by simp at z3; omega⟩)
      have hnewl : repL (rep G w' b' .s) w' b'.sz bb oo (zs0 ++ ys0) ([] ++ []) := by
        refine repL_append zs0 ys0 [] [] oo ?_ ?_
        · obtain ⟨cz, hz1, hz2⟩ := cells_of_repL lenR zs0 [] oo hrl
          refine repL_of_cells (fun x c f h => rep_len _ _ _ _ _ h) zs0 cz [] oo (repA_imp zs0 cz [] (fun z _ c f _ hz => rep_frame htn.toSame (fun _ h => h) hXG _ _ _ _ _ (fun q hq => by
            rw [rep_s_fp _ _ _ _ hz] at hq; simp at hq) hz) hz1) (htn.toSame.cellsAt hz2 (fun j hj hx => ?_))
          rw [add_mk] at hx
          have := hx.2.1
          have hlz := repA_len lenR zs0 cz [] hz1
          simp at this
          omega
        · exact repL_of_cells (fun x c f h => rep_len _ _ _ _ _ h) ys0 csy [] _ (repA_imp ys0 csy [] (fun z _ c f _ hz => rep_frame htn.toSame (fun _ h => h) hXG _ _ _ _ _ (fun q hq => by
            rw [rep_s_fp _ _ _ _ hz] at hq; simp at hq) hz) hry) hcn
      have R3 := R2.hold (v := ⟨.list b', .o .s, zs0 ++ ys0⟩) (c := .slice (some ⟨bb, oo, none⟩) (zs0.length + ys0.length) capx) (f := [⟨bb, oo, oo + capx * b'.sz⟩])
        ⟨.inr ⟨bb, oo, capx, [], by simp [unpack, Ty.agg], by simpa using hfit, rfl, htn.toSame.span hsp, hnewl⟩, rfl⟩ (by unfold ND; simp) (fun j => ?_) (fun q hq => ?_)
      · refine fin _ w' _ ?_ R3
        rw [hxv, hvy1]
        have hfc := run_firstCells (P := P) (sz := b'.sz) (n := ys0.length) (A := Ay) (l := ys0.length) (cap := capy) (cs := csy) (w := w) hly hcy'
        simp only [Builtin.append_, List.getElem?_toArray, List.getElem?_cons_zero, List.getElem?_cons_succ, Sem.run_bind, run_underlying hd1, run_underlying hd1', hEf.size, Builtin.lenOf, Result.andThen_ok, Sem.run_pure, Bool.false_eq_true, if_false]
        simp only [Bool.not_false, if_true, hfit, Sem.run_bind, hfc, Result.andThen_ok, add_mk]
        rw [hst]
        rfl
      · intro q hq z hz
        simp only [List.mem_cons, List.not_mem_nil, or_false] at hq
        subst hq
        unfold upd at hz
        split at hz
        · simp at hz
        · rename_i hj
          exact R1.ap _ j (Ne.symm hj) _ hr0 z hz
      · simp only [List.mem_cons, List.not_mem_nil, or_false] at hq
        subst hq
        exact ⟨hok0.1, Nat.lt_of_lt_of_le hok0.2.1 htn.size, hok0.2.2⟩
  · -- a new row
    have hgt : capx < zs0.length + ys0.length := Nat.lt_of_not_le hfit
    have hnc := nextcap_le (zs0.length + ys0.length) capx hgt hbd
    have hbytes : ¬ (Builtin.nextslicecap (zs0.length + ys0.length) capx * inf.bytes > 2 ^ 48) := by
      have : Builtin.nextslicecap (zs0.length + ys0.length) capx * inf.bytes ≤ 3000000000 * 65536 := Nat.mul_le_mul hnc hby
      omega
    have hmax : ¬ (((zs0.length + ys0.length : Nat) : Int) > IntKind.i64.max ∧ (False ∨ inf.bytes = 0)) := by
      rintro ⟨h1, _⟩
      rw [IntKind.max_i64] at h1
      omega
    let w1 := w.drew
    let ncap := Question.cut (.appendCap (zs0.length + ys0.length) capx el) (w.tape w.drawn (.appendCap (zs0.length + ys0.length) capx el))
    have hncap : zs0.length + ys0.length ≤ ncap := by simp [ncap, Question.cut]
    have ht1 : Turn (fun _ _ => False) w w1 := ⟨⟨Nat.le_refl _, fun b c e f h => ⟨c, h, rfl⟩, fun _ _ _ => rfl⟩, rfl, rfl, rfl, fun _ _ _ => rfl⟩
    let cells := csx.toArray ++ csy.toArray ++ Builtin.zeroCells (pack b' zc).cells (ncap - (zs0.length + ys0.length))
    have ht2 := alloc_turn w1 (.cells cells el)
    have htt : Turn (fun _ _ => False) w (w1.alloc (.cells cells el)) := ht1.trans ht2 (fun _ _ _ h => h) (fun _ _ _ h => h)
    have R2 := (RelX.dropHeld (H := []) R1).world htt (fun _ _ h => h.elim) (fun _ _ h => h.elim) (fun _ _ _ h => h.elim)
    have hcsz : cells.size = ncap * b'.sz := by
      simp only [cells, Array.size_append, List.size_toArray, Builtin.zeroCells, Array.size_map, Array.size_range, hzcells, hlx, hly]
      rw [← Nat.add_mul, ← Nat.add_mul]
      congr 1
      omega
    have hcl : cellsAt (w1.alloc (.cells cells el)) ⟨w.heap.size, 0, none⟩ (csx ++ csy) := by
      intro j v hj
      rw [add_mk, Nat.zero_add]
      show (w1.alloc (.cells cells el)).cell? ⟨w1.heap.size, j, none⟩ = some v
      rw [World.cell?_alloc_new, ← Array.getElem?_toList]
      simp only [cells, Array.toList_append]
      rw [List.getElem?_append_left (by have := (List.getElem?_eq_some_iff.1 hj).1; simpa using this)]
      exact hj
    have hrall : repA (rep G (w1.alloc (.cells cells el)) b' .s) (zs0 ++ ys0) (csx ++ csy) ([] ++ []) := by
      refine repA_imp _ _ _ (fun z _ c f _ hz => rep_frame htt.toSame (fun _ h => h) (fun _ _ h => h.elim) _ _ _ _ _ (fun _ _ _ h => h) hz) (repA_append zs0 ys0 csx csy [] [] hrx hry)
    have hnewl := repL_of_cells (w := w1.alloc (.cells cells el)) (b := w.heap.size) (fun x c f h => rep_len b' .s x c f h) (zs0 ++ ys0) (csx ++ csy) ([] ++ []) 0 hrall hcl
    have R3 := R2.hold (v := ⟨.list b', .o .s, zs0 ++ ys0⟩) (c := .slice (some ⟨w.heap.size, 0, none⟩) (zs0.length + ys0.length) ncap) (f := [⟨w.heap.size, 0, 0 + ncap * b'.sz⟩])
      ⟨.inr ⟨w.heap.size, 0, ncap, [], by simp [unpack, Ty.agg], by simpa using hncap, rfl, ⟨cells, el, by show (w1.heap.push _)[w1.heap.size]? = _; simp, by omega⟩, hnewl⟩, rfl⟩ (by unfold ND; simp) (fun j => ?_) (fun q hq => ?_)
    · refine fin _ _ _ ?_ R3
      rw [hxv, hvy1]
      have hfx := run_firstCells (P := P) (sz := b'.sz) (n := zs0.length) (A := Ax) (l := zs0.length) (cap := capx) (cs := csx) (w := w1) hlx (hcx.imp id (fun ⟨ad, h1, h2⟩ => ⟨ad, h1, ht1.toSame.cellsAt h2 (fun _ _ h => h)⟩))
      have hfy := run_firstCells (P := P) (sz := b'.sz) (n := ys0.length) (A := Ay) (l := ys0.length) (cap := capy) (cs := csy) (w := w1) hly (hcy'.imp id (fun ⟨ad, h1, h2⟩ => ⟨ad, h1, ht1.toSame.cellsAt h2 (fun _ _ h => h)⟩))
      simp only [Builtin.append_, List.getElem?_toArray, List.getElem?_cons_zero, List.getElem?_cons_succ, Sem.run_bind, run_underlying hd1, run_underlying hd1', hEf.size, Builtin.lenOf, Result.andThen_ok, Sem.run_pure, Bool.false_eq_true, if_false]
      simp only [Bool.not_false, if_true, hfit, if_false, Sem.run_bind, hinf, Result.andThen_ok, hmax, hbytes, run_choose, Question.forced, Bool.false_eq_true, World.drew_eq, run_askRoom]
      show ((Builtin.firstCells b'.sz zs0.length (.slice Ax zs0.length capx)).run P w1).andThen _ = _
      rw [hfx, Result.andThen_ok]
      show ((Builtin.firstCells b'.sz ys0.length (.slice Ay ys0.length capy)).run P w1).andThen _ = _
      rw [hfy, Result.andThen_ok, hzc]
      rfl
    · intro q hq z hz
      simp only [List.mem_cons, List.not_mem_nil, or_false] at hq
      subst hq
      unfold upd at hz
      split at hz
      · simp at hz
      · have := (R1.ok j z hz).2.1
        simp only [ne_eq]
        omega
    · simp only [List.mem_cons, List.not_mem_nil, or_false] at hq
      subst hq
      refine ⟨fun hb => ?_, ?_, .inl R1.turn.size⟩
      · have := (R1.gl _ hb).1; simp at this
      · show w.heap.size < (w1.heap.push _).size
        simp [w1]

end
end Go.VL

namespace Go.VL

theorem Turn.world_none (w : World) : Turn (fun _ _ => False) w w := Turn.refl _ w

section
variable {P : Program} {C : Ctx} {B : Base} {G : Nat → Prop} {F : Nat → List Res} {H : List (TV × Value)} {env : Env} {ts : List Value} {w : World}
variable {ρ : Type} {c : List GI} {r : ρ} {ty : TypeId} {pos : String} {after : Array Edge} {gd : Option (Nat × Bool)}

theorem coe_run {v : TV} {m : Md} {d : Option Nat} {K : TV → Env → Option ρ} (hg : gOf c = true) (h : (coe v m).run c d env K = some r) : coeOk v.t v.m m v.x = true ∧ K ⟨v.t, m, v.x⟩ env = some r := by
  simp only [coe, Rd.run_bind'] at h
  obtain ⟨h1, h⟩ := Rd.run_check hg h
  exact ⟨h1, h⟩

/-- the elements of a literal list: each is shared from now on -/
theorem buildL_run {a : Ty} {d : Option Nat} (hg : gOf c = true) : ∀ (ps : List (Nat × Operand)) (n : Nat) (env : Env) (G : Nat → Prop) (F : Nat → List Res) (K : List a.den → Env → Option ρ),
    RelX B G F H env ts w → Cur env c → (buildL c a .s n ps).run c d env K = some r →
    ∃ G' F' env' xs cs, (∀ b, G b → G' b) ∧ K xs env' = some r ∧ RelX B G' F' H env' ts w ∧ env'.length = env.length ∧ Kept c env env' ∧ xs.length = ps.length ∧
      repA (rep G' w a .s) xs cs [] ∧ cs = (ps.map fun p => unpack a (evalO ts p.2)).flatten ∧ (∀ p ∈ ps, pack a (unpack a (evalO ts p.2)) = evalO ts p.2 ∧ (unpack a (evalO ts p.2)).length = a.sz ∧ ∀ v ∈ unpack a (evalO ts p.2), v.oneCell' = true) ∧
      ∀ i p, ps[i]? = some p → p.1 = n + i
  | [], n, env, G, F, K, R, hc, h => by
    simp only [buildL, Rd.run_pure] at h
    exact ⟨G, F, env, [], [], fun _ h => h, h, R, rfl, Kept.refl _ _, rfl, ⟨rfl, rfl⟩, rfl, by simp, by simp⟩
  | (i, o) :: ps, n, env, G, F, K, R, hc, h => by
    simp only [buildL, Rd.run_bind'] at h
    obtain ⟨hin, h⟩ := Rd.run_guard h
    simp only [beq_iff_eq] at hin
    obtain ⟨sl, h, ho⟩ := opnd_run R hc hg h
    obtain ⟨u, F1, env1, h, R1, hlen1, hce⟩ := take_run R ho h
    obtain ⟨hco, h⟩ := coe_run hg h
    obtain ⟨x, hx, h⟩ := Rd.run_opt h
    obtain ⟨G2, F2, hG2, R2⟩ := RelX.coe R1 hco
    obtain ⟨ut, um, ux⟩ := u
    obtain ⟨e, hxe⟩ := castV_eq hx
    simp only at e hxe
    subst e
    have hxe : ux = x := hxe
    subst hxe
    have hv := R2.held H.length (⟨ut, .s, ux⟩, evalO ts o) (by simp)
    have hf := rep_s_fp _ _ _ _ hv.1
    have R3 := R2.dropHeld
    obtain ⟨G', F', env', xs, cs, hG', hK, R', hlen, hce', hxl, hrep, hcs, hpk, hidx⟩ := buildL_run hg ps (n + 1) env1 G2 _ _ R3 (hc.moved hce) h
    simp only [Rd.run_pure] at hK
    rw [hf] at hv
    have hv' : vrel G' w ut .s ux (evalO ts o) [] := vrel_frame (X := fun _ _ => False) (Same.refl _ w) hG' (fun _ _ h => h.elim) (fun _ h => by simp at h) hv
    refine ⟨G', F', env', ux :: xs, unpack ut (evalO ts o) ++ cs, fun b h => hG' b (hG2 b h), hK, R', hlen.trans hlen1, ?_, by simp [hxl], ⟨_, _, [], [], hv'.1, hrep, rfl, rfl⟩, by simp [hcs], ?_, ?_⟩
    · exact hce.trans hce'
    · intro p hp
      rcases List.mem_cons.1 hp with rfl | hp
      · exact ⟨hv.2, rep_len _ _ _ _ _ hv.1, rep_one _ _ _ _ _ hv.1⟩
      · exact hpk p hp
    · intro j p hj
      cases j with
      | zero => simp only [List.getElem?_cons_zero, Option.some.injEq] at hj; subst hj; exact hin
      | succ j =>
        simp only [List.getElem?_cons_succ] at hj
        have := hidx j p hj
        omega

theorem foldl_set : ∀ (cs : List Value) (A : Array Value) (off k : Nat) (pre mid post : List Value), A.toList = pre ++ (mid ++ post) → pre.length = off + k → mid.length = cs.length →
    ((cs.zipIdx k).foldl (fun a (p : Value × Nat) => a.setIfInBounds (off + p.2) p.1) A).toList = pre ++ (cs ++ post)
  | [], A, off, k, pre, mid, post, h, _, hl => by
    have : mid = [] := List.eq_nil_of_length_eq_zero hl
    subst this
    simpa using h
  | v :: cs, A, off, k, pre, [], post, _, _, hl => by simp at hl
  | v :: cs, A, off, k, pre, m :: mid, post, h, hp, hl => by
    simp only [List.zipIdx_cons, List.foldl_cons]
    have := foldl_set cs (A.setIfInBounds (off + k) v) off (k + 1) (pre ++ [v]) mid post (by
      rw [Array.toList_setIfInBounds, h, ← hp]
      simp) (by simp; omega) (by simpa using hl)
    simpa using this

theorem fill_step {place : Nat → Option (Nat × Nat)} {A : Array Value} {i off size : Nat} {v : Value} {rest : List (Nat × Value)} {pre mid post : List Value} (hp : place i = some (off, size))
    (hA : A.toList = pre ++ (mid ++ post)) (ho : pre.length = off) (hm : mid.length = size) (hv : v.cells.size = size) :
    ∃ A', Instr.fill place A ((i, v) :: rest) = Instr.fill place A' rest ∧ A'.toList = pre ++ (v.cells.toList ++ post) := by
  have hsz : A.size = pre.length + (mid.length + post.length) := by rw [← Array.length_toList, hA]; simp
  refine ⟨v.cells.zipIdx.foldl (fun cs (p : Value × Nat) => cs.setIfInBounds (off + p.2) p.1) A, ?_, ?_⟩
  · simp only [Instr.fill, hp]
    rw [if_neg]
    simp only [Bool.or_eq_true, decide_eq_true_eq, not_or]
    exact ⟨by simp [hv], by omega⟩
  · rw [← Array.foldl_toList, Array.toList_zipIdx]
    exact foldl_set v.cells.toList A off 0 pre mid post hA (by omega) (hm.trans (hv.symm.trans Array.length_toList.symm))

variable {K : Unit → Env → Option ρ}

/-- elements of a literal, filled in one behind the other -/
theorem fill_seq {a : Ty} {size : Nat} : ∀ (ps : List (Nat × Operand)) (n : Nat) (A : Array Value) (pre mid post : List Value), A.toList = pre ++ (mid ++ post) → pre.length = n * a.sz → mid.length = ps.length * a.sz → size = a.sz →
    (∀ p ∈ ps, pack a (unpack a (evalO ts p.2)) = evalO ts p.2 ∧ (unpack a (evalO ts p.2)).length = a.sz ∧ ∀ v ∈ unpack a (evalO ts p.2), v.oneCell' = true) → (∀ i p, ps[i]? = some p → p.1 = n + i) →
    ∃ A', Instr.fill (fun i => some (i * size, size)) A (ps.map fun p => (p.1, evalO ts p.2)) = some A' ∧ A'.toList = pre ++ ((ps.map fun p => unpack a (evalO ts p.2)).flatten ++ post)
  | [], n, A, pre, mid, post, hA, _, hm, _, _, _ => by
    have : mid = [] := List.eq_nil_of_length_eq_zero (by simpa using hm)
    subst this
    exact ⟨A, rfl, by simpa using hA⟩
  | (i, o) :: ps, n, A, pre, mid, post, hA, hp, hm, hs, hpk, hidx => by
    subst hs
    obtain ⟨h1, h2, h3⟩ := hpk (i, o) (by simp)
    have hi : i = n := by have := hidx 0 (i, o) rfl; simpa using this
    subst hi
    have hvc : (evalO ts o).cells.toList = unpack a (evalO ts o) := by
      have := pack_cells h2 h3
      rw [h1] at this
      exact this
    have hvs : (evalO ts o).cells.size = a.sz := by rw [← Array.length_toList, hvc, h2]
    have hmid : mid = mid.take a.sz ++ mid.drop a.sz := (List.take_append_drop _ _).symm
    have hml : (mid.take a.sz).length = a.sz := by
      simp only [List.length_take, hm, List.length_cons, Nat.add_mul, Nat.one_mul]
      omega
    obtain ⟨A1, hf, hA1⟩ := fill_step (place := fun i => some (i * a.sz, a.sz)) (rest := ps.map fun p => (p.1, evalO ts p.2)) (i := i) (A := A) (pre := pre) (mid := mid.take a.sz) (post := mid.drop a.sz ++ post) rfl
      (by rw [hA]; simp [← List.append_assoc]) hp hml hvs
    obtain ⟨A', hf', hA'⟩ := fill_seq (size := a.sz) ps (i + 1) A1 (pre ++ unpack a (evalO ts o)) (mid.drop a.sz) post (by rw [hA1, hvc]; simp) (by simp [hp, h2, Nat.add_mul]) (by
      simp only [List.length_drop, hm, List.length_cons, Nat.add_mul, Nat.one_mul]; omega) rfl (fun p hp => hpk p (by simp [hp])) (fun j p hj => by
        have := hidx (j + 1) p (by simpa using hj)
        omega)
    refine ⟨A', ?_, by rw [hA']; simp⟩
    simp only [List.map_cons]
    rw [hf, hf']

theorem op_buildSlice {T : TypeId} {n : Nat} {ps : Array (Nat × Operand)} {d : Nat} (hT : TysOk P C) (R : RelX B G F [] env ts w) (hc : Cur env c) (hg : gOf c = true) (hl : ∀ l ∈ B.lents, l.1 ≠ d)
    (h : (opSem C c ⟨some d, .buildSlice T n ps, ty, pos, after, gd⟩).run c (some d) env K = some r) : OpOut P B env ts w ⟨some d, .buildSlice T n ps, ty, pos, after, gd⟩ K r := by
  simp only [opSem] at h
  split at h
  case h_2 => simp at h
  rename_i a hTa
  rw [Rd.run_bind'] at h
  obtain ⟨hn, h⟩ := Rd.run_guard h
  simp only [Bool.and_eq_true, beq_iff_eq, decide_eq_true_eq] at hn
  obtain ⟨hn, hbig⟩ := hn
  rw [Rd.run_bind'] at h
  obtain ⟨G', F', env', xs, cs, hG', hK, R', hlen, hce, hxl, hrep, hcs, hpk, hidx⟩ := buildL_run hg ps.toList 0 env G F _ R hc h
  have hTf := tyF (hT _ _ hTa)
  obtain ⟨dsc, hd1, hd2⟩ := hTf.und
  cases dsc <;> simp only [descChk] at hd2 <;> try (cases hd2; done)
  rename_i el
  simp only [Bool.and_eq_true, bne_iff_ne] at hd2
  obtain ⟨hd3, hd4⟩ := hd2
  have hel : C.ty el = some a := by
    split at hd3
    · rename_i a' ha; simp only [decide_eq_true_eq] at hd3; rw [ha, hd3]
    · cases hd3
  have hEf := tyF (hT _ _ hel)
  obtain ⟨zc, hzc, hzz⟩ := hEf.zero
  have hzrep : rep G w a (zmd a) a.zero zc [] := isZ_rep a zc hzz
  have lenR : ∀ (x : a.den) c f, rep G' w a .s x c f → c.length = a.sz := fun x c f h => rep_len _ _ _ _ _ h
  have hlc := repA_len lenR xs cs [] hrep
  have hps : ps.toList.length = n := by rw [Array.length_toList]; exact hn
  -- the zero cells are all filled
  let A' : Array Value := cs.toArray
  have hfill : ∀ z : Array Value, Instr.fill (fun i => some (i * a.sz, a.sz)) ((Array.range (n * a.sz)).map (z[· % z.size]!)) (ps.toList.map fun p => (p.1, evalO ts p.2)) = some A' := by
    intro z
    have hA0 : ((Array.range (n * a.sz)).map (z[· % z.size]!)).toList.length = n * a.sz := by simp
    obtain ⟨A1, hf, hA1⟩ := fill_seq (ts := ts) (a := a) (size := a.sz) ps.toList 0 ((Array.range (n * a.sz)).map (z[· % z.size]!)) [] ((Array.range (n * a.sz)).map (z[· % z.size]!)).toList [] (by simp) (by simp) (by rw [hA0, hps]) rfl hpk hidx
    rw [hf]
    congr 1
    apply Array.toList_inj.1
    rw [hA1]
    simp [A', hcs]
  have hA' : A'.toList = cs := rfl
  have hAs : A'.size = n * a.sz := by rw [← Array.length_toList, hA', hlc, hxl, hps]
  have ht := alloc_turn w (.cells A' el)
  have R2 := R'.world ht (fun _ _ h => h.elim) (fun _ _ h => h.elim) (fun _ _ _ h => h.elim)
  have hcl : cellsAt (w.alloc (.cells A' el)) ⟨w.heap.size, 0, none⟩ cs := by
    intro j v hj
    rw [add_mk, Nat.zero_add, World.cell?_alloc_new, ← Array.getElem?_toList, hA']
    exact hj
  have hrall : repA (rep G' (w.alloc (.cells A' el)) a .s) xs cs [] :=
    repA_imp _ _ _ (fun z _ c f _ hz => rep_frame ht.toSame (fun _ h => h) (fun _ _ h => h.elim) _ _ _ _ _ (fun _ _ _ h => h) hz) hrep
  have hnewl := repL_of_cells (w := w.alloc (.cells A' el)) (b := w.heap.size) (fun x c f h => rep_len a .s x c f h) xs cs [] 0 hrall hcl
  have R3 := R2.hold (v := ⟨.list a, .o .s, xs⟩) (c := .slice (some ⟨w.heap.size, 0, none⟩) n n) (f := [⟨w.heap.size, 0, 0 + n * a.sz⟩])
    ⟨.inr ⟨w.heap.size, 0, n, [], by simp [unpack, Ty.agg, hxl, hps], (by show xs.length ≤ n; omega), rfl, ⟨A', el, by show (w.heap.push _)[w.heap.size]? = _; simp, by omega⟩, hnewl⟩, rfl⟩ (by unfold ND; simp) (fun j => ?_) (fun q hq => ?_)
  · obtain ⟨F3, env3, k1, k2, k3⟩ := set_val R3 (hc.moved hce) hg hl hK
    refine ⟨_, _, _, _, _, .inl ?_, k1, k2, k3.trans hlen⟩
    have hmap : (ps.map fun (p : Nat × Operand) => (p.1, evalO ts p.2)).toList = ps.toList.map fun p => (p.1, evalO ts p.2) := by simp
    simp only [execOp, Instr.buildSlice, Sem.run_bind, run_underlying hd1, Result.andThen_ok, hEf.size]
    have hbig' : ¬ (n * a.sz > 2 ^ 24) := by omega
    simp only [hbig', if_false]
    have hfill' : ∀ z : Array Value, Instr.fill (fun i => some (i * a.sz, a.sz)) ((Array.range (n * a.sz)).map (z[· % z.size]!)) (ps.map fun (p : Nat × Operand) => (p.1, evalO ts p.2)).toList = some A' := fun z => by rw [hmap]; exact hfill z
    by_cases h0 : n * a.sz = 0
    · rw [if_pos h0]
      simp only [Sem.run_bind, Sem.run_pure, Result.andThen_ok]
      rw [hfill' #[]]
      simp [newRow]
    · rw [if_neg h0]
      simp only [Sem.run_bind, Sem.run_pure, Result.andThen_ok, hzc]
      rw [hfill' (pack a zc).cells]
      simp [newRow]
  · intro q hq z hz
    simp only [List.mem_cons, List.not_mem_nil, or_false] at hq
    subst hq
    have := (R'.ok j z hz).2.1
    simp only [ne_eq]
    omega
  · simp only [List.mem_cons, List.not_mem_nil, or_false] at hq
    subst hq
    refine ⟨fun hb => ?_, by simp, .inl R.turn.size⟩
    have := (R'.gl _ hb).1
    simp at this


theorem places_at {C : Ctx} {fs : Array Field} {_w0 : World} (hT : TysOk P C) {t : Ty} (h : fieldsChk C.ty fs.toList 0 t = true) :
    ∃ pl : Array (Nat × Nat), (∀ w, (fs.mapM fun f => (do pure (f.offset, ← sizeOf f.type) : Sem (Nat × Nat))).run P w = .ok pl w) ∧
      ∀ f m x u, getP (stepsOf f) t m x = some u → pl[f]? = some (offOf f t, u.t.sz) := by
  have key : ∀ (l : List Field) (off : Nat) (t : Ty), fieldsChk C.ty l off t = true → ∃ pl : List (Nat × Nat), (∀ w, (l.mapM fun f => (do pure (f.offset, ← sizeOf f.type) : Sem (Nat × Nat))).run P w = .ok pl w) ∧
      ∀ f m x u, getP (stepsOf f) t m x = some u → pl[f]? = some (off + offOf f t, u.t.sz) := by
    intro l
    induction l with
    | nil =>
      intro off t h
      cases t <;> simp [fieldsChk] at h
      refine ⟨[], fun w => rfl, fun f m x u hg => ?_⟩
      cases f <;> simp [stepsOf, getP] at hg
    | cons fl l ih =>
      intro off t h
      cases t <;> simp only [fieldsChk] at h <;> try (cases h; done)
      rename_i a b
      simp only [Bool.and_eq_true, beq_iff_eq, bne_iff_ne] at h
      obtain ⟨⟨⟨⟨h1, h2⟩, h3⟩, h4⟩, h5⟩ := h
      have hty : C.ty fl.type = some a := by
        split at h2
        · rename_i a' ha; simp only [decide_eq_true_eq] at h2; rw [ha, h2]
        · cases h2
      obtain ⟨pl, hp1, hp2⟩ := ih (off + a.sz) b h5
      refine ⟨(fl.offset, a.sz) :: pl, fun w => ?_, fun f m x u hg => ?_⟩
      · simp only [List.mapM_cons, Sem.run_bind, (tyF (hT _ _ hty)).size, Result.andThen_ok, Sem.run_pure]
        rw [hp1]
        rfl
      · cases f with
        | zero =>
          simp only [stepsOf, getP, Option.some.injEq] at hg
          subst hg
          simp [offOf, h1]
        | succ f =>
          simp only [stepsOf, getP] at hg
          have := hp2 f _ _ u hg
          simp only [List.getElem?_cons_succ, offOf, this]
          congr 2
          omega
  obtain ⟨pl, h1, h2⟩ := key fs.toList 0 t h
  refine ⟨pl.toArray, fun w => ?_, fun f m x u hg => by simpa using h2 f m x u hg⟩
  rw [Array.mapM_eq_mapM_toList, Sem.run_map, h1]
  rfl

/-- a field of a struct's value is put anew -/
theorem rep_field : ∀ (i : Nat) (t : Ty) (m : Md) (x : t.den) (cs : List Value) (f : List Res) (u v : TV) (n : Md × t.den), rep G w t m x cs f → getP (stepsOf i) t m x = some u → setP (stepsOf i) t m x v = some n →
    ∃ pre mid post f1 f2 f3, cs = pre ++ (mid ++ post) ∧ pre.length = offOf i t ∧ mid.length = u.t.sz ∧ f = f1 ++ (f2 ++ f3) ∧ v.t = u.t ∧
      ∀ cv fv, rep G w v.t v.m v.x cv fv → rep G w t n.1 n.2 (pre ++ (cv ++ post)) (f1 ++ (fv ++ f3)) := by
  intro i
  induction i with
  | zero =>
    intro t m x cs f u v n hr hg hs
    have hvt := getP_setP_ty _ _ _ _ _ _ _ hg hs
    cases t <;> simp only [stepsOf, getP] at hg <;> try (cases hg; done)
    rename_i a b
    simp only [Option.some.injEq] at hg
    subst hg
    simp only [stepsOf, setP, Option.map_eq_some_iff] at hs
    obtain ⟨q, ⟨y, hy, rfl⟩, rfl⟩ := hs
    obtain ⟨c1, c2, f1, f2, h1, h2, rfl, rfl⟩ := hr
    refine ⟨[], c1, c2, [], f1, f2, rfl, rfl, rep_len _ _ _ _ _ h1, rfl, hvt, fun cv fv hv => ?_⟩
    obtain ⟨vt, vm, vx⟩ := v
    simp only at hvt
    subst hvt
    obtain ⟨e, rfl⟩ := castV_eq hy
    exact ⟨cv, c2, fv, f2, by simpa using hv, by simpa using h2, rfl, rfl⟩
  | succ i ih =>
    intro t m x cs f u v n hr hg hs
    cases t <;> simp only [stepsOf, getP] at hg <;> try (cases hg; done)
    rename_i a b
    simp only [stepsOf, setP, Option.map_eq_some_iff] at hs
    obtain ⟨q, hq, rfl⟩ := hs
    obtain ⟨c1, c2, f1, f2, h1, h2, rfl, rfl⟩ := hr
    obtain ⟨pre, mid, post, g1, g2, g3, rfl, hp, hm, rfl, hvt, hupd⟩ := ih b _ _ c2 f2 u v q h2 hg hq
    refine ⟨c1 ++ pre, mid, post, f1 ++ g1, g2, g3, by simp, by simp [offOf, rep_len _ _ _ _ _ h1, hp], hm, by simp, hvt, fun cv fv hv => ?_⟩
    exact ⟨c1, pre ++ (cv ++ post), f1, g1 ++ (fv ++ g3), by simpa using h1, by simpa using hupd cv fv hv, by simp, by simp⟩

/-- two held values become one -/
theorem RelX.join {u1 u2 u : TV} {v1 v2 v : Value} (R : RelX B G F (H ++ [(u1, v1)] ++ [(u2, v2)]) env ts w) {f : List Res}
    (hf : ∀ r ∈ f, r ∈ F (env.length + H.length) ∨ r ∈ F (env.length + (H.length + 1))) (nd : ND f) (hv : vrel G w u.t u.m u.x v f) :
    ∃ F', RelX B G F' (H ++ [(u, v)]) env ts w := by
  have R1 := (R.dropHeld).dropHeld
  have hk : (H ++ [(u1, v1)]).length = H.length + 1 := by simp
  rw [hk] at R1
  refine ⟨_, R1.hold hv nd (fun j => ?_) (fun r hr => ?_)⟩
  · intro r hr q hq
    unfold upd at hq
    split at hq
    · simp at hq
    · split at hq
      · simp at hq
      · rename_i h1 h2
        rcases hf r hr with h | h
        · exact R.ap _ j (Ne.symm h1) r h q hq
        · exact R.ap _ j (Ne.symm h2) r h q hq
  · rcases hf r hr with h | h
    · exact R.ok _ r h
    · exact R.ok _ r h

theorem fill_nil {place : Nat → Option (Nat × Nat)} {A : Array Value} : Instr.fill place A [] = some A := rfl

/-- the parts of a struct's literal -/
theorem buildP_run {d : Option Nat} (hg : gOf c = true) {place : Nat → Option (Nat × Nat)} {t0 : Ty} (hplace : ∀ f m (x : t0.den) u, getP (stepsOf f) t0 m x = some u → place f = some (offOf f t0, u.t.sz)) :
    ∀ (ps : List (Nat × Operand)) (env : Env) (F : Nat → List Res) (m : Md) (x : t0.den) (A : Array Value) (K : TV → Env → Option ρ),
    RelX B G F [(⟨t0, m, x⟩, pack t0 A.toList)] env ts w → A.toList.length = t0.sz → t0.agg = true → Cur env c → (buildP c ps ⟨t0, m, x⟩).run c d env K = some r →
    ∃ F' env' m' x' A', Instr.fill place A (ps.map fun p => (p.1, evalO ts p.2)) = some A' ∧ K ⟨t0, m', x'⟩ env' = some r ∧ RelX B G F' [(⟨t0, m', x'⟩, pack t0 A'.toList)] env' ts w ∧ env'.length = env.length ∧ Kept c env env'
  | [], env, F, m, x, A, K, R, hA, hag, hc, h => by
    simp only [buildP, Rd.run_pure] at h
    exact ⟨F, env, m, x, A, rfl, h, R, rfl, Kept.refl _ _⟩
  | (i, o) :: ps, env, F, m, x, A, K, R, hA, hag, hc, h => by
    simp only [buildP, Rd.run_bind'] at h
    obtain ⟨w0, hw0, h⟩ := Rd.run_opt h
    obtain ⟨sl, h, ho⟩ := opnd_run R hc hg h
    obtain ⟨u, F1, env1, h, R1, hlen1, hce⟩ := take_run R ho h
    obtain ⟨n, hn, h⟩ := Rd.run_opt h
    have hv1 : vrel G w t0 m x (pack t0 A.toList) (F1 (env1.length + 0)) := R1.held 0 _ rfl
    have hv2 : vrel G w u.t u.m u.x (evalO ts o) (F1 (env1.length + 1)) := R1.held 1 _ rfl
    have hup : unpack t0 (pack t0 A.toList) = A.toList := by simp [unpack, pack, hag]
    have hr1 := hv1.1
    rw [hup] at hr1
    obtain ⟨pre, mid, post, f1, f2, f3, hcs, hp, hm, hf, hvt, hupd⟩ := rep_field i t0 m x _ _ w0 u n hr1 hw0 hn
    have hnew := hupd _ _ hv2.1
    have hl2 := rep_len _ _ _ _ _ hv2.1
    have hcells : (evalO ts o).cells.toList = unpack u.t (evalO ts o) := by
      have := pack_cells hl2 (rep_one _ _ _ _ _ hv2.1)
      rw [hv2.2] at this
      exact this
    obtain ⟨A1, hfill, hA1⟩ := fill_step (place := place) (i := i) (rest := ps.map fun p => (p.1, evalO ts p.2)) (hplace i m x w0 hw0) hcs hp hm (by rw [← Array.length_toList, hcells, hl2, hvt])
    rw [hcells] at hA1
    rw [← hA1] at hnew
    have nd1 := R1.nd (env1.length + 0)
    rw [hf] at nd1
    obtain ⟨n1, n2, n3⟩ := ND.append.1 nd1
    obtain ⟨_, n4, n5⟩ := ND.append.1 n2
    have ap12 : Apart (F1 (env1.length + 0)) (F1 (env1.length + 1)) := R1.ap _ _ (by omega)
    have hsub1 : ∀ z ∈ f1, z ∈ F1 (env1.length + 0) := fun z hz => by rw [hf]; simp [hz]
    have hsub3 : ∀ z ∈ f3, z ∈ F1 (env1.length + 0) := fun z hz => by rw [hf]; simp [hz]
    obtain ⟨F2, R2⟩ := RelX.join (H := []) (u := ⟨t0, n.1, n.2⟩) (v := pack t0 A1.toList) (f := f1 ++ (F1 (env1.length + 1) ++ f3)) R1 (fun z hz => by
        simp only [List.mem_append] at hz
        rcases hz with h | h | h
        · exact .inl (hsub1 z h)
        · exact .inr h
        · exact .inl (hsub3 z h))
      (ND.append.2 ⟨n1, ND.append.2 ⟨R1.nd _, n4, fun a ha z hz => (ap12 z (hsub3 z hz) a ha).symm⟩, fun a ha z hz => by
        rcases List.mem_append.1 hz with hz | hz
        · exact ap12 a (hsub1 a ha) z hz
        · exact n3 a ha z (by simp [hz])⟩) (vrel_pack hnew)
    obtain ⟨F', env', m', x', A', hf', hK, R', hlen, hce'⟩ := buildP_run hg hplace ps env1 F2 n.1 n.2 A1 K R2 (rep_len _ _ _ _ _ hnew) hag (hc.moved hce) h
    refine ⟨F', env', m', x', A', by simp only [List.map_cons]; rw [hfill, hf'], hK, R', hlen.trans hlen1, ?_⟩
    exact hce.trans hce'

theorem op_build {T : TypeId} {ps : Array (Nat × Operand)} {d : Nat} (hT : TysOk P C) (R : RelX B G F [] env ts w) (hc : Cur env c) (hg : gOf c = true) (hl : ∀ l ∈ B.lents, l.1 ≠ d)
    (h : (opSem C c ⟨some d, .build T ps, ty, pos, after, gd⟩).run c (some d) env K = some r) : OpOut P B env ts w ⟨some d, .build T ps, ty, pos, after, gd⟩ K r := by
  simp only [opSem] at h
  rw [Rd.run_bind'] at h
  obtain ⟨t, ht, h⟩ := Rd.run_opt h
  have hTf := tyF (hT _ _ ht)
  obtain ⟨zc, hzc, hzz⟩ := hTf.zero
  have hzrep : ∀ G, rep G w t (zmd t) t.zero zc [] := fun G => isZ_rep t zc hzz
  have hzl := rep_len _ _ _ _ _ (hzrep G)
  have hzcells : (pack t zc).cells.toList = zc := pack_cells hzl (rep_one _ _ _ _ _ (hzrep G))
  obtain ⟨dsc, hd1, hd2⟩ := hTf.und
  have hmap : (ps.map fun (p : Nat × Operand) => (p.1, evalO ts p.2)).toList = ps.toList.map fun p => (p.1, evalO ts p.2) := by simp
  split at h
  · -- a struct
    rename_i a b
    cases dsc <;> simp only [descChk] at hd2 <;> try (cases hd2; done)
    rename_i fs
    obtain ⟨pl, hpl, hplc⟩ := places_at (_w0 := w) hT hd2
    rw [Rd.run_bind'] at h
    have R1 := R.holdPlain (v := ⟨.pair a b, zmd (.pair a b), (Ty.pair a b).zero⟩) (vrel_pack (hzrep G))
    have hz' : pack (.pair a b) zc = pack (.pair a b) (pack (.pair a b) zc).cells.toList := by rw [hzcells]
    rw [hz'] at R1
    obtain ⟨F', env', m', x', A', hf, hK, R', hlen, hce⟩ := buildP_run hg hplc ps.toList env F _ _ (pack (.pair a b) zc).cells _ R1 (by rw [hzcells]; exact hzl) rfl hc h
    obtain ⟨F2, env2, k1, k2, k3⟩ := set_val R' (hc.moved hce) hg hl hK
    refine ⟨_, _, _, _, _, .inl ?_, k1, k2, k3.trans hlen⟩
    simp only [execOp, Instr.build, Sem.run_bind, hzc, Result.andThen_ok, run_underlying hd1, hpl]
    rw [hmap, hf]
    rfl
  · -- an array
    rename_i n a
    cases dsc <;> simp only [descChk] at hd2 <;> try (cases hd2; done)
    rename_i n' e
    simp only [Bool.and_eq_true, beq_iff_eq] at hd2
    obtain ⟨⟨hnn, hd3⟩, hd4⟩ := hd2
    subst hnn
    have hety : C.ty e = some a := by
      split at hd3
      · rename_i a' ha; simp only [decide_eq_true_eq] at hd3; rw [ha, hd3]
      · cases hd3
    have hEf := tyF (hT _ _ hety)
    rw [Rd.run_bind'] at h
    obtain ⟨hgd, h⟩ := Rd.run_guard h
    simp only [Bool.and_eq_true, decide_eq_true_eq] at hgd
    obtain ⟨hps, hzp⟩ := hgd
    rw [Rd.run_bind'] at h
    obtain ⟨G', F', env', xs, cs, hG', hK, R', hlen, hce, hxl, hrep, hcs, hpk, hidx⟩ := buildL_run hg ps.toList 0 env G F _ R hc h
    have lenR : ∀ (x : a.den) c f, rep G' w a .s x c f → c.length = a.sz := fun x c f h => rep_len _ _ _ _ _ h
    have hlc := repA_len lenR xs cs [] hrep
    have hpl : ps.toList.length = ps.size := Array.length_toList
    have hzr := hzrep G'
    obtain ⟨_, hzA⟩ := hzr
    have hze : (zmd (.arr n a)).e = .s := by
      simp only [zmd]
      rw [plain_md hzp]
      rfl
    rw [hze] at hzA
    -- the zero cells behind the parts
    have hsplit : ∀ (k n : Nat) (cs : List Value), k ≤ n → repA (rep G' w a .s) (List.replicate n a.zero) cs [] → ∃ c1 c2, cs = c1 ++ c2 ∧ c1.length = k * a.sz ∧ repA (rep G' w a .s) (List.replicate (n - k) a.zero) c2 [] := by
      intro k
      induction k with
      | zero => intro n cs _ h; exact ⟨[], cs, rfl, by simp, h⟩
      | succ k ih =>
        intro n cs hk h
        obtain ⟨n, rfl⟩ : ∃ n', n = n' + 1 := ⟨n - 1, by omega⟩
        obtain ⟨ca, cb, fa, fb, ha, hb, rfl, hff⟩ := h
        have hfb : fb = [] := by
          have := hff.symm
          simp only [List.append_eq_nil_iff] at this
          exact this.2
        subst hfb
        obtain ⟨c1, c2, rfl, h1, h2⟩ := ih n cb (by omega) hb
        refine ⟨ca ++ c1, c2, by simp, by simp [lenR _ _ _ ha, h1, Nat.add_mul, Nat.add_comm], ?_⟩
        rwa [show n + 1 - (k + 1) = n - k by omega]
    obtain ⟨z1, z2, hz12, hz1l, hz2⟩ := hsplit ps.size n zc hps hzA
    obtain ⟨A', hf, hA'⟩ := fill_seq (ts := ts) (a := a) (size := a.sz) ps.toList 0 (pack (.arr n a) zc).cells [] z1 z2 (by rw [hzcells, hz12]; simp) (by simp) (by rw [hz1l, hpl]) rfl hpk hidx
    simp only [List.nil_append] at hA'
    rw [← hcs] at hA'
    have hv : vrel G' w (.arr n a) .s (xs ++ List.replicate (n - ps.size) a.zero) (pack (.arr n a) A'.toList) [] := by
      refine vrel_pack ⟨?_, ?_⟩
      · simp [hxl]; omega
      · rw [hA']; exact repA_append xs _ cs z2 [] [] hrep hz2
    obtain ⟨F2, env2, k1, k2, k3⟩ := set_plain R' (hc.moved hce) hg hl hv hK
    refine ⟨_, _, _, _, _, .inl ?_, k1, k2, k3.trans hlen⟩
    simp only [execOp, Instr.build, Sem.run_bind, hzc, Result.andThen_ok, run_underlying hd1, hEf.size]
    rw [hmap, hf]
    rfl
  · simp at h

end
end Go.VL

namespace Go.VL
section
variable {P : Program} {C : Ctx} {B : Base} {G : Nat → Prop} {F : Nat → List Res} {H : List (TV × Value)} {env : Env} {ts : List Value} {w : World}
variable {ρ : Type} {c : List GI} {K : Unit → Env → Option ρ} {r : ρ} {ty : TypeId} {pos : String} {after : Array Edge} {gd : Option (Nat × Bool)}

theorem bound_run {d : Option Nat} {dflt : Int} {o : Option Operand} {K : Int → Env → Option ρ} (R : RelX B G F H env ts w) (hc : Cur env c) (hg : gOf c = true) (h : (bound c dflt o).run c d env K = some r) :
    ∃ x, K x env = some r ∧ (match o with | none => x = dflt | some o => evalO ts o = .int .i64 x) := by
  cases o with
  | none => simp only [bound, Rd.run_pure] at h; exact ⟨dflt, h, rfl⟩
  | some o =>
    simp only [bound, Rd.run_bind'] at h
    obtain ⟨sl, h, ho⟩ := opnd_run R hc hg h
    obtain ⟨t, x, hk, hv⟩ := plainV_run R ho h
    split at hk
    · rename_i m y heq
      simp only [Rd.run_pure] at hk
      obtain ⟨rfl, h2, h3⟩ : t = .int .i64 ∧ .s = m ∧ HEq x y := by simpa using heq
      cases h3
      exact ⟨y, hk, int_val hv⟩
    · simp at hk

/-- a window of a list -/
theorem vrel_window {a : Ty} {m : Md} {xs : List a.den} {A : Option Addr} {cap l h : Nat} {f : List Res} (hm : m ≠ .h) (hv : vrel G w (.list a) m xs (.slice A xs.length cap) f) (hlh : l ≤ h) (hh : h ≤ xs.length) :
    xs.length ≤ cap ∧ ∃ f', (∀ r ∈ f', ∃ q ∈ f, q.blk = r.blk ∧ q.lo ≤ r.lo ∧ r.hi ≤ q.hi) ∧ (ND f → ND f') ∧
      vrel G w (.list a) m ((xs.take h).drop l) (.slice (if cap = l then A else A.map (·.add (l * a.sz))) (h - l) (cap - l)) f' := by
  obtain ⟨hr, _⟩ := hv
  simp only [unpack, Ty.agg, if_false, Bool.false_eq_true] at hr
  have hlen : ((xs.take h).drop l).length = h - l := by simp [Nat.min_eq_left hh]
  have shared : ∀ A' cap', [Value.slice A xs.length cap] = [Value.slice A' xs.length cap'] → xs.length ≤ cap' → (∀ i (h : i < xs.length), ∃ (ad : Addr) (c : List Value), A' = some ad ∧ G ad.block ∧ cellsAt w (ad.add (i * a.sz)) c ∧ rep G w a .s xs[i] c []) →
      xs.length ≤ cap ∧ ∃ cap2, [Value.slice (if cap = l then A else A.map (·.add (l * a.sz))) (h - l) (cap - l)] = [Value.slice (if cap = l then A else A.map (·.add (l * a.sz))) ((xs.take h).drop l).length cap2] ∧ ((xs.take h).drop l).length ≤ cap2 ∧
        ∀ i (hi : i < ((xs.take h).drop l).length), ∃ (ad : Addr) (c : List Value), (if cap = l then A else A.map (·.add (l * a.sz))) = some ad ∧ G ad.block ∧ cellsAt w (ad.add (i * a.sz)) c ∧ rep G w a .s ((xs.take h).drop l)[i] c [] := by
    intro A' cap' e hc hh'
    simp only [List.cons.injEq, Value.slice.injEq, and_true, true_and] at e
    obtain ⟨rfl, rfl⟩ := e
    refine ⟨hc, cap - l, by rw [hlen], by rw [hlen]; omega, fun i hi => ?_⟩
    rw [hlen] at hi
    obtain ⟨ad, c, ha, hg, hcc, hr⟩ := hh' (l + i) (by omega)
    have hne : cap ≠ l := by omega
    refine ⟨ad.add (l * a.sz), c, by simp [hne, ha], by rw [add_block]; exact hg, ?_, by simpa using hr⟩
    rw [add_add]
    rwa [show l * a.sz + i * a.sz = (l + i) * a.sz by rw [Nat.add_mul]]
  cases m with
  | h => exact absurd rfl hm
  | s =>
    obtain ⟨⟨A', cap', e, hc, hh'⟩, rfl⟩ := hr
    obtain ⟨h1, cap2, h2, h3, h4⟩ := shared A' cap' e hc hh'
    exact ⟨h1, [], fun r hr => by simp at hr, fun _ => List.Pairwise.nil, ⟨⟨_, cap2, h2, h3, h4⟩, rfl⟩, rfl⟩
  | p _ _ =>
    obtain ⟨⟨A', cap', e, hc, hh'⟩, rfl⟩ := hr
    obtain ⟨h1, cap2, h2, h3, h4⟩ := shared A' cap' e hc hh'
    exact ⟨h1, [], fun r hr => by simp at hr, fun _ => List.Pairwise.nil, ⟨⟨_, cap2, h2, h3, h4⟩, rfl⟩, rfl⟩
  | o m =>
    rcases hr with ⟨rfl, e, rfl⟩ | ⟨b, o, cap', fs, e, hc, rfl, hsp, hrl⟩
    · simp only [List.length_nil, List.cons.injEq, Value.slice.injEq, and_true, true_and] at e
      obtain ⟨rfl, rfl⟩ := e
      refine ⟨Nat.le_refl _, [], fun r hr => by simp at hr, fun _ => List.Pairwise.nil, .inl ⟨by simp, ?_, rfl⟩, rfl⟩
      simp only [List.length_nil] at hh
      have hl0 : l = 0 := by omega
      have hh0 : h = 0 := by omega
      subst hl0 hh0
      simp [unpack, Ty.agg]
    · simp only [List.cons.injEq, Value.slice.injEq, and_true, true_and] at e
      obtain ⟨rfl, rfl⟩ := e
      -- the window's elements
      have win : ∀ (xs : List a.den) (o l h : Nat) (fs : List Res), l ≤ h → h ≤ xs.length → repL (rep G w a m) w a.sz b o xs fs → ∃ g, g.Sublist fs ∧ repL (rep G w a m) w a.sz b (o + l * a.sz) ((xs.take h).drop l) g := by
        intro xs
        induction xs with
        | nil => intro o l h fs _ _ _; exact ⟨[], List.nil_sublist _, by simp [repL]⟩
        | cons x xs ih =>
          intro o l h fs hlh hh hr
          obtain ⟨c, f1, f2, hc, hx, hl, rfl⟩ := hr
          cases h with
          | zero =>
            have : l = 0 := by omega
            subst this
            exact ⟨[], List.nil_sublist _, by simp [repL]⟩
          | succ h =>
            cases l with
            | zero =>
              obtain ⟨g, hg, hr⟩ := ih (o + a.sz) 0 h f2 (Nat.zero_le _) (by simpa using hh) hl
              refine ⟨f1 ++ g, (List.Sublist.refl _).append hg, ?_⟩
              simp only [List.take_succ_cons, List.drop_zero, Nat.zero_mul, Nat.add_zero]
              exact ⟨c, f1, g, hc, hx, by simpa using hr, rfl⟩
            | succ l =>
              obtain ⟨g, hg, hr⟩ := ih (o + a.sz) l h f2 (by omega) (by simpa using hh) hl
              refine ⟨g, hg.trans (List.sublist_append_right _ _), ?_⟩
              simp only [List.take_succ_cons, List.drop_succ_cons]
              rwa [show o + (l + 1) * a.sz = o + a.sz + l * a.sz by rw [Nat.add_mul]; omega]
      obtain ⟨g, hg, hrg⟩ := win xs o l h fs hlh hh hrl
      by_cases hcl : cap = l
      · have hl0 : (xs.take h).drop l = [] := List.eq_nil_of_length_eq_zero (by rw [hlen]; omega)
        refine ⟨hc, [⟨b, o, o + 0 * a.sz⟩], fun r hr => ?_, fun _ => by unfold ND; simp, .inr ⟨b, o, 0, [], ?_, by rw [hlen]; omega, rfl, hsp.mono (by omega), ?_⟩, rfl⟩
        · simp only [List.mem_cons, List.not_mem_nil, or_false] at hr
          subst hr
          exact ⟨⟨b, o, o + cap * a.sz⟩, by simp, rfl, Nat.le_refl _, by simp⟩
        · simp [unpack, Ty.agg, hcl, hlen]
        · rw [hl0]; rfl
      · refine ⟨hc, ⟨b, o + l * a.sz, o + l * a.sz + (cap - l) * a.sz⟩ :: g, fun r hr => ?_, fun nd => ?_, .inr ⟨b, o + l * a.sz, cap - l, g, ?_, by rw [hlen]; omega, rfl, ?_, hrg⟩, rfl⟩
        · have hmul : l * a.sz + (cap - l) * a.sz = cap * a.sz := by rw [← Nat.add_mul]; congr 1; omega
          rcases List.mem_cons.1 hr with rfl | hr
          · exact ⟨⟨b, o, o + cap * a.sz⟩, by simp, rfl, by simp, by simp; omega⟩
          · exact ⟨r, by simp [hg.subset hr], rfl, Nat.le_refl _, Nat.le_refl _⟩
        · have nd' := List.pairwise_cons.1 nd
          exact List.pairwise_cons.2 ⟨fun q hq => nd'.1 q (hg.subset hq), List.Pairwise.sublist hg nd'.2⟩
        · simp [unpack, Ty.agg, hcl, hlen, add_mk]
        · have hmul : l * a.sz + (cap - l) * a.sz = cap * a.sz := by rw [← Nat.add_mul]; congr 1; omega
          exact hsp.mono (by omega)

theorem op_slice {T : TypeId} {x : Operand} {lo hi : Option Operand} {d : Nat} (hT : TysOk P C) (R : RelX B G F [] env ts w) (hc : Cur env c) (hg : gOf c = true) (hl : ∀ l ∈ B.lents, l.1 ≠ d)
    (h : (opSem C c ⟨some d, .slice T x lo hi none, ty, pos, after, gd⟩).run c (some d) env K = some r) : OpOut P B env ts w ⟨some d, .slice T x lo hi none, ty, pos, after, gd⟩ K r := by
  simp only [opSem] at h
  split at h
  case h_2 => simp at h
  rename_i a hTa
  simp only [Rd.run_bind'] at h
  obtain ⟨sl, h, ho⟩ := opnd_run R hc hg h
  obtain ⟨u, F1, env1, h, R1, hlen1, hce⟩ := take_run R ho h
  have hc1 := hc.moved hce
  split at h
  case h_2 => simp at h
  rename_i b m xs
  rw [Rd.run_bind'] at h
  obtain ⟨hm, hk0⟩ := Rd.run_guard h
  simp only [Bool.and_eq_true, decide_eq_true_eq] at hm
  obtain ⟨hm, hab⟩ := hm
  subst hab
  simp only [Rd.run_bind'] at hk0
  obtain ⟨hv, hk1, hhi⟩ := bound_run R1 hc1 hg hk0
  obtain ⟨lv, hk2, hlo⟩ := bound_run R1 hc1 hg hk1
  obtain ⟨hck, hk⟩ := Rd.run_check hg hk2
  simp only [Bool.and_eq_true, decide_eq_true_eq] at hck
  obtain ⟨⟨h0, hlh⟩, hhl⟩ := hck
  have hm' : m ≠ .h := by intro e; subst e; simp [Md.noHole] at hm
  have hvx : vrel G w (.list b) m xs (evalO ts x) (F1 (env1.length + 0)) := R1.held 0 _ rfl
  obtain ⟨A, cap, hA, _⟩ := list_val hm' hvx
  rw [hA] at hvx
  obtain ⟨hlc, f', hf1, hf2, hvw⟩ := vrel_window (l := lv.toNat) (h := hv.toNat) hm' hvx (by omega) (by omega)
  have R2 := (RelX.dropHeld (H := []) R1).hold (v := ⟨.list b, m, (xs.take hv.toNat).drop lv.toNat⟩) hvw (hf2 (R1.nd _)) (fun j => ?_) (fun q hq => ?_)
  · obtain ⟨F', env', k1, k2, k3⟩ := set_val R2 hc1 hg hl hk
    refine ⟨_, _, _, _, _, .inl ?_, k1, k2, k3.trans hlen1⟩
    have hTf := tyF (hT _ _ hTa)
    obtain ⟨dsc, hd1, hd2⟩ := hTf.und
    cases dsc <;> simp only [descChk] at hd2 <;> try (cases hd2; done)
    rename_i el
    simp only [Bool.and_eq_true, bne_iff_ne] at hd2
    obtain ⟨hd3, hd4⟩ := hd2
    have hel : C.ty el = some b := by
      split at hd3
      · rename_i a' ha; simp only [decide_eq_true_eq] at hd3; rw [ha, hd3]
      · cases hd3
    have hbo : (Instr.sliceBounds true xs.length cap (lo.map (evalO ts)) (hi.map (evalO ts)) none).run P w = .ok (lv.toNat, hv.toNat, cap) w := by
      cases hi with
      | none =>
        simp only at hhi
        subst hhi
        cases lo with
        | none =>
          simp only at hlo
          subst hlo
          simp [Instr.sliceBounds]
        | some lo =>
          simp only at hlo
          simp only [Instr.sliceBounds, Option.map_some, Option.map_none, Sem.run_bind, Sem.run_pure, Result.andThen_ok, hlo, Instr.sliceBound, asIntOf]
          rw [if_pos ⟨h0, by omega⟩]
          simp
      | some hi =>
        simp only at hhi
        cases lo with
        | none =>
          simp only at hlo
          subst hlo
          simp only [Instr.sliceBounds, Option.map_some, Option.map_none, Sem.run_bind, Sem.run_pure, Result.andThen_ok, hhi, Instr.sliceBound, asIntOf]
          rw [if_pos ⟨by omega, by omega⟩]
          simp
        | some lo =>
          simp only at hlo
          simp only [Instr.sliceBounds, Option.map_some, Sem.run_bind, Sem.run_pure, Result.andThen_ok, hhi, hlo, Instr.sliceBound, asIntOf]
          rw [if_pos ⟨by omega, by omega⟩]
          simp only [Sem.run_pure, Result.andThen_ok]
          rw [if_pos ⟨h0, by omega⟩]
          simp
    simp only [execOp, hA, Instr.sliceAt, Sem.run_bind, run_underlying hd1, Result.andThen_ok, Instr.slice, Option.map_none, hbo, (tyF (hT _ _ hel)).size, Sem.run_pure]
  · intro q hq z hz
    unfold upd at hz
    split at hz
    · simp at hz
    · rename_i hj
      obtain ⟨q', hq', e, _⟩ := hf1 q hq
      rw [← e]
      exact R1.ap _ j (Ne.symm hj) q' hq' z hz
  · obtain ⟨q', hq', e, e2, e3⟩ := hf1 q hq
    obtain ⟨k1, k2, k3⟩ := R1.ok _ q' hq'
    refine ⟨e ▸ k1, e ▸ k2, ?_⟩
    rcases k3 with h | ⟨z, hz, z1, z2, z3⟩
    · exact .inl (e ▸ h)
    · exact .inr ⟨z, hz, z1.trans e, by omega, by omega⟩

end
end Go.VL
