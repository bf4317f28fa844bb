import Derived.Test.YtkgjdglkkoabmaaGreatV1
import Derived.Laws.Entries
import Derived.Laws.StructEq
import Derived.Laws.Small
import Derived.Laws.Unary

namespace Go.VL

theorem rep_hole {G : Nat → Prop} {w : World} : ∀ (t : Ty) (m : Md) (x : t.den) (cs : List Value) (fp : List Res), rep G w t m x cs fp → rep G w t .h x cs [] := by
  intro t
  induction t with
  | int k => intro m x cs fp h; exact ⟨h.1, rfl⟩
  | bool => intro m x cs fp h; exact ⟨h.1, rfl⟩
  | str => intro m x cs fp h; exact ⟨h.1, rfl⟩
  | unit => intro m x cs fp h; exact ⟨h.1, rfl⟩
  | fn => intro m x cs fp h; exact ⟨h.1, rfl⟩
  | pair a b iha ihb =>
    intro m x cs fp h
    obtain ⟨c1, c2, f1, f2, h1, h2, rfl, rfl⟩ := h
    exact ⟨c1, c2, [], [], iha _ _ _ _ h1, ihb _ _ _ _ h2, rfl, rfl⟩
  | arr n a ih =>
    intro m x cs fp h
    refine ⟨h.1, ?_⟩
    have : ∀ (xs : List a.den) cs fp, repA (rep G w a m.e) xs cs fp → repA (rep G w a .h) xs cs [] := by
      intro xs
      induction xs with
      | nil => intro cs fp h; exact ⟨h.1, rfl⟩
      | cons y ys ih2 =>
        intro cs fp h
        obtain ⟨c1, c2, f1, f2, h1, h2, rfl, rfl⟩ := h
        exact ⟨c1, c2, [], [], ih _ _ _ _ h1, ih2 _ _ h2, rfl, rfl⟩
    exact this x cs fp h.2
  | list a ih =>
    intro m x cs fp h
    refine ⟨?_, rfl⟩
    cases m with
    | h => exact h.1
    | o m => rcases h with ⟨_, rfl, _⟩ | ⟨b, o, cap, fs, rfl, _⟩ <;> exact ⟨_, _, _, rfl⟩
    | s => obtain ⟨⟨A, cap, rfl, _⟩, _⟩ := h; exact ⟨_, _, _, rfl⟩
    | p _ _ => obtain ⟨⟨A, cap, rfl, _⟩, _⟩ := h; exact ⟨_, _, _, rfl⟩
  | ptr a ih =>
    intro m x cs fp h
    refine ⟨?_, rfl⟩
    cases m with
    | h => exact h.1
    | o m => obtain ⟨y, b, o, c, f, _, rfl, _⟩ := h; exact ⟨_, rfl⟩
    | s => obtain ⟨_, rfl, _⟩ := h; exact ⟨_, rfl⟩
    | p _ _ => obtain ⟨_, rfl, _⟩ := h; exact ⟨_, rfl⟩

theorem getP_keepL : ∀ (p0 : List Step) (t : Ty) (m : Md) (x : t.den) (v : TV) (n : Md × t.den), setP p0 t m x v = some n →
    ∀ (p : List Step) (u : TV), kills (pat p0) p.dropLast = false → getP p t m x = some u → ∃ u', getP p t n.1 n.2 = some u' ∧ u'.t = u.t := by
  intro p0
  induction p0 with
  | nil => intro t m x v n hs p u hk; simp [pat, kills] at hk
  | cons s p0 ih =>
    intro t m x v n hs p u hkl hg
    -- a path's first step: into the turned part, or beside it
    cases p with
    | nil => simp only [getP, Option.some.injEq] at hg; subst hg; exact ⟨_, rfl, rfl⟩
    | cons s' p =>
      have go : ∀ (t : Ty) (m : Md) (x : t.den) (q : Md × t.den), setP p0 t m x v = some q → (p = [] ∨ kills (pat p0) p.dropLast = false) → getP p t m x = some u → ∃ u', getP p t q.1 q.2 = some u' ∧ u'.t = u.t := by
        intro t m x q hq hk hg
        rcases hk with rfl | hk
        · simp only [getP, Option.some.injEq] at hg ⊢; subst hg; exact ⟨_, rfl, rfl⟩
        · exact ih t m x v q hq p u hk hg
      cases s <;> cases t <;> (try simp only [setP] at hs) <;> try (cases hs; done)
      case fst.pair a b =>
        simp only [Option.map_eq_some_iff] at hs
        obtain ⟨q, hq, rfl⟩ := hs
        cases s' <;> simp only [getP] at hg ⊢ <;> try cases hg
        · simp only [Md.mk_l]; exact go _ _ _ _ hq (by cases p with | nil => exact .inl rfl | cons a b => exact .inr (by simpa [pat, kills] using hkl)) hg
        · simp only [Md.mk_r]; exact ⟨u, hg, rfl⟩
      case snd.pair a b =>
        simp only [Option.map_eq_some_iff] at hs
        obtain ⟨q, hq, rfl⟩ := hs
        cases s' <;> simp only [getP] at hg ⊢ <;> try cases hg
        · simp only [Md.mk_l]; exact ⟨u, hg, rfl⟩
        · simp only [Md.mk_r]; exact go _ _ _ _ hq (by cases p with | nil => exact .inl rfl | cons a b => exact .inr (by simpa [pat, kills] using hkl)) hg
      case idx.list i a =>
        cases m <;> simp only [setP] at hs <;> try cases hs
        rename_i m
        simp only [Option.bind_eq_some_iff] at hs
        obtain ⟨q, hq, hs⟩ := hs
        split at hs <;> try cases hs
        rename_i hm
        cases s' <;> simp only [getP] at hg ⊢ <;> try cases hg
        rename_i j
        by_cases hij : i.toNat = j.toNat
        · rw [← hij] at hg ⊢
          by_cases hk : i.toNat < x.length
          · have e : (x.set i.toNat q.2).getD i.toNat a.zero = q.2 := by simp [List.getD, hk]
            rw [e, ← hm]
            exact go _ _ _ _ hq (by cases p with | nil => exact .inl rfl | cons a b => exact .inr (by simpa [pat, kills] using hkl)) hg
          · have e : (x.set i.toNat q.2) = x := List.set_eq_of_length_le (Nat.le_of_not_lt hk)
            rw [e]; exact ⟨u, hg, rfl⟩
        · have e : (x.set i.toNat q.2).getD j.toNat a.zero = x.getD j.toNat a.zero := by simp [List.getD, List.getElem?_set_ne hij]
          rw [e]; exact ⟨u, hg, rfl⟩
      case idx.arr i n a =>
        simp only [Option.bind_eq_some_iff] at hs
        obtain ⟨q, hq, hs⟩ := hs
        split at hs <;> try cases hs
        rename_i hm
        cases s' <;> simp only [getP] at hg ⊢ <;> try cases hg
        rename_i j
        by_cases hij : i.toNat = j.toNat
        · rw [← hij] at hg ⊢
          by_cases hk : i.toNat < x.length
          · have e : (x.set i.toNat q.2).getD i.toNat a.zero = q.2 := by simp [List.getD, hk]
            rw [e, ← hm]
            exact go _ _ _ _ hq (by cases p with | nil => exact .inl rfl | cons a b => exact .inr (by simpa [pat, kills] using hkl)) hg
          · have e : (x.set i.toNat q.2) = x := List.set_eq_of_length_le (Nat.le_of_not_lt hk)
            rw [e]; exact ⟨u, hg, rfl⟩
        · have e : (x.set i.toNat q.2).getD j.toNat a.zero = x.getD j.toNat a.zero := by simp [List.getD, List.getElem?_set_ne hij]
          rw [e]; exact ⟨u, hg, rfl⟩
      case der.ptr a =>
        cases m <;> simp only [setP] at hs <;> try cases hs
        simp only [Option.map_eq_some_iff] at hs
        obtain ⟨q, hq, rfl⟩ := hs
        cases s' <;> simp only [getP] at hg ⊢ <;> try cases hg
        simp only [Option.getD_some]
        exact go _ _ _ _ hq (by cases p with | nil => exact .inl rfl | cons a b => exact .inr (by simpa [pat, kills] using hkl)) hg

theorem walkV_der {w : World} {t : Ty} {cs : List Value} {ad : Addr} (h : walkV w [.der] t cs = some ad) : ∃ a, t = .ptr a ∧ cs = [.pointer (some ad)] := by
  cases t with
  | ptr a =>
    refine ⟨a, rfl, ?_⟩
    match cs, h with
    | [.pointer (some ad0)], h =>
      simp only [walkV, walkA, Option.some.injEq] at h
      rw [h]
  | _ => simp [walkV] at h

theorem set_getD_self (ts : List Value) (s : Nat) : ts.set s (ts.getD s undef) = ts := by
  apply List.ext_getElem?
  intro i
  by_cases h : i = s
  · subst h
    by_cases hl : i < ts.length
    · simp [hl, List.getD]
    · simp [hl]
  · simp [List.getElem?_set_ne (Ne.symm h)]

section
variable {B : Base} {G : Nat → Prop} {F : Nat → List Res} {H : List (TV × Value)} {env : Env} {ts : List Value} {w : World}

theorem ND.sub {f g : List Res} (h : ND g) (hs : f.Sublist g) : ND f := List.Pairwise.sublist hs h

/-- a slot is moved out, and its value held -/
theorem RelX.moveOut (R : RelX B G F H env ts w) {s : Nat} {t : Ty} {m : Md} {x : t.den} (hs : s < env.length) (hv : vrel G w t m x (ts.getD s undef) (F s)) :
    RelX B G (upd (upd F s []) (env.length + H.length) (F s)) (H ++ [(⟨t, m, x⟩, ts.getD s undef)]) (env.put ⟨s, .all, .undef⟩) ts w := by
  have R1 := R.setSlot (d := s) (e := .undef) (c := ts.getD s undef) (f := []) hs trivial List.Pairwise.nil (fun _ _ r hr => by simp at hr) (fun r hr => by simp at hr) (fun _ _ h => by cases h) (fun _ _ _ _ _ _ h => by cases h)
  rw [set_getD_self] at R1
  have := R1.hold (v := ⟨t, m, x⟩) (c := ts.getD s undef) (f := F s) hv (R.nd s) (fun j => ?_) (fun r hr => R.ok s r hr)
  · rwa [Env.length_put] at this
  · by_cases h : j = s
    · subst h; rw [upd_same]; intro r _ q hq; simp at hq
    · rw [upd_other F _ h]; exact R.ap s j (Ne.symm h)

/-- a part of a root is moved out, and held -/
theorem RelX.moveOutOf (R : RelX B G F H env ts w) {s : Nat} {t : Ty} {m : Md} {x : t.den} {p : List Step} {u : TV} {ad : Addr} {c : List Value} {n : Md × t.den} (hr : (env.get s).e = .val t m x)
    (hu : getP p t m x = some u) (hw : walkV w p t (unpack t (ts.getD s undef)) = some ad) (hc : cellsAt w ad c) (hl : c.length = u.t.sz) (hset : setP p t m x ⟨u.t, .h, u.x⟩ = some n) :
    ∃ F', RelX B G F' (H ++ [(u, pack u.t c)]) (env.put ⟨s, .at (pat p), .val t n.1 n.2⟩) ts w := by
  obtain ⟨hlt, hroot⟩ := R.rootVal hr
  obtain ⟨b, o, c1, f, pre, post, rfl, hc1, hr1, hF, hsp, hin, hupd⟩ := lensV p t m x _ _ u ⟨u.t, .h, u.x⟩ ad n hroot.1 (R.nd s) (fun r hr => (R.ok s r hr).1) hu hw rfl hset
  have hcc : c = c1 := cellsAt_inj hc hc1 (by rw [hl, rep_len _ _ _ _ _ hr1])
  subst hcc
  have hnew := hupd G w c [] (fun _ h => h) (Same.refl _ w) hc1 (rep_hole _ _ _ _ _ hr1)
  simp only [List.nil_append] at hnew
  have hsub : (pre ++ post).Sublist (F s) := by rw [hF]; exact List.Sublist.append (List.Sublist.refl _) (List.sublist_append_right _ _)
  have hsubf : f.Sublist (F s) := by rw [hF]; exact List.Sublist.trans (List.sublist_append_left _ _) (List.sublist_append_right _ _)
  have R1 := R.setRoot (G' := G) (r := s) (m2 := n.1) (x2 := n.2) (f' := pre ++ post) (w' := w) (X := fun _ _ => False) (b := .at (pat p)) hr (fun _ h => h) (fun b hb j _ ⟨q, hq, e⟩ => (R.ok j q hq).1 (e ▸ hb)) R.gl (Turn.refl _ w)
    (fun _ _ h => h.elim) (fun _ _ h => h.elim) (fun _ _ _ h => h.elim) ⟨hnew, hroot.2⟩ ((R.nd s).sub hsub) (fun j hj r hr q hq => R.ap s j (Ne.symm hj) r (hsub.subset hr) q hq) (fun q hq => R.ok s q (hsub.subset hq)) (fun _ p2 u2 hk hg2 => ⟨getP_keepL p t m x _ n hset p2 u2 (hk _ rfl) hg2, fun ad hw2 => ⟨hw2, fun _ _ _ h => h⟩⟩)
  have ndF := R.nd s
  rw [hF] at ndF
  obtain ⟨_, nd2, nd3⟩ := ND.append.1 ndF
  obtain ⟨ndf, _, nd4⟩ := ND.append.1 nd2
  have R2 := R1.hold (v := u) (c := pack u.t c) (f := f) (vrel_pack hr1) ndf (fun j => ?_) (fun r hr => R.ok s r (hsubf.subset hr))
  · exact ⟨_, R2⟩
  · by_cases h : j = s
    · subst h
      rw [upd_same]
      intro r hr q hq
      rcases List.mem_append.1 hq with hq | hq
      · exact (nd3 q hq r (by simp [hr])).symm
      · exact nd4 r hr q hq
    · rw [upd_other F _ h]
      exact fun r hr q hq => R.ap s j (Ne.symm h) r (hsubf.subset hr) q hq

theorem getP_tyK : ∀ (p : List Step) (t : Ty) (m m' : Md) (x x' : t.den) (u u' : TV), getP p t m x = some u → getP p t m' x' = some u' → u'.t = u.t
  | [], _, _, _, _, _, _, _, h, h' => by
    simp only [getP, Option.some.injEq] at h h'
    subst h h'
    rfl
  | s :: p, t, m, m', x, x', u, u', h, h' => by
    cases s <;> cases t <;> try (simp [getP] at h; done)
    · exact getP_tyK p _ _ _ _ _ _ _ h h'
    · exact getP_tyK p _ _ _ _ _ _ _ h h'
    · cases m <;> try (simp [getP] at h; done)
      all_goals cases m' <;> try (simp [getP] at h'; done)
      all_goals exact getP_tyK p _ _ _ _ _ _ _ h h'
    · exact getP_tyK p _ _ _ _ _ _ _ h h'
    · cases m <;> try (simp [getP] at h; done)
      cases m' <;> try (simp [getP] at h'; done)
      exact getP_tyK p _ _ _ _ _ _ _ h h'

/-- parts of a root are shared from now on -/
theorem RelX.shareSub (R : RelX B G F H env ts w) {q : Nat} {t : Ty} {m m2 : Md} {x x2 : t.den} {f z : List Res} (hr : (env.get q).e = .val t m x)
    (hf : f.Sublist (F q)) (hz : z.Sublist (F q)) (hfz : Apart f z) (hrep : rep (fun b => G b ∨ blks z b) w t m2 x2 (unpack t (ts.getD q undef)) f) :
    RelX B (fun b => G b ∨ blks z b) (upd F q f) H (env.put ⟨q, .all, .val t m2 x2⟩) ts w := by
  obtain ⟨hlt, hroot⟩ := R.rootVal hr
  exact R.setRoot (X := fun _ _ => False) (b := .all) (f' := f) hr (fun _ h => .inl h)
    (fun b hb j hj ⟨y, hy, e⟩ => by
      rcases hb with hb | ⟨y', hy', e'⟩
      · exact (R.ok j y hy).1 (e ▸ hb)
      · exact R.ap j q hj y hy y' (hz.subset hy') (e.trans e'.symm))
    (fun b hb => by
      rcases hb with hb | ⟨y, hy, rfl⟩
      · exact R.gl b hb
      · obtain ⟨_, h2, h3⟩ := R.ok q y (hz.subset hy)
        exact ⟨h2, .inr (h3.imp id fun ⟨z, hz, e, _⟩ => ⟨z, hz, e⟩)⟩)
    (Turn.refl _ w) (fun _ _ h => h.elim) (fun _ _ h => h.elim) (fun _ _ _ h => h.elim) ⟨hrep, hroot.2⟩
    ((R.nd q).sub hf) (fun j hj a ha y hy => R.ap q j (Ne.symm hj) a (hf.subset ha) y hy)
    (fun y hy => ⟨fun hb => by
        rcases hb with hb | ⟨y', hy', e⟩
        · exact (R.ok q y (hf.subset hy)).1 hb
        · exact hfz y hy y' hy' e.symm, (R.ok q y (hf.subset hy)).2⟩)
    (fun h => absurd rfl h)

theorem take0_pref {ρ : Type} {c : List GI} {d : Option Nat} {o : Operand} {q ep wc : Nat} {p : List Step} {v : Value} {K : TV → Env → Option ρ} {r : ρ} (hg : gOf c = true) (R : RelX B G F H env ts w) (hrel : slotRel G w env ts (.pref q ep wc p) v [])
    (h : (take0 o (.pref q ep wc p)).run c d env K = some r) : ∃ u G' F' env', K u env' = some r ∧ (∀ b, G b → G' b) ∧ RelX B G' F' (H ++ [(u, v)]) env' ts w ∧ env'.length = env.length ∧ Kept c env env' := by
  simp only [take0, Rd.run_bind'] at h
  obtain ⟨t, m, x, h1, h2, h⟩ := root_run h
  obtain ⟨u, hu, h⟩ := Rd.run_opt h
  obtain ⟨ha, h⟩ := Rd.run_guard h
  simp only [Bool.and_eq_true] at ha
  obtain ⟨_, _, _, hrel⟩ := hrel
  obtain ⟨t', m', x', u', hr', hu', hcc⟩ := hrel h2
  rw [h1] at hr'
  cases hr'
  rw [hu] at hu'
  cases hu'
  obtain ⟨cs, rfl, hl, hp⟩ := hcc ha.2
  obtain ⟨hlt, hroot⟩ := R.rootVal h1
  cases p with
  | nil =>
    simp only [Rd.run_bind'] at h
    obtain ⟨hc, h⟩ := Rd.run_moveU hg h
    simp only [Rd.run_pure] at h
    simp only [getP, Option.some.injEq] at hu
    subst hu
    rcases hp with ⟨_, rfl⟩ | ⟨ad, hw, _⟩
    · simp only [hroot.2]
      exact ⟨_, _, _, _, h, fun _ h => h, R.moveOut hlt hroot, Env.length_put _ _, hc⟩
    · simp [walkV] at hw
  | cons s p =>
    simp only at h
    split at h
    · simp only [Rd.run_bind'] at h
      obtain ⟨n, hset, h⟩ := Rd.run_opt h
      obtain ⟨hc, h⟩ := Rd.run_moveU hg h
      simp only [Rd.run_pure] at h
      rcases hp with ⟨hnil, _⟩ | ⟨ad, hw, hcell⟩
      · cases hnil
      · obtain ⟨F', R'⟩ := R.moveOutOf h1 hu hw hcell hl hset
        exact ⟨_, _, _, _, h, fun _ h => h, R', Env.length_put _ _, hc⟩
    · simp only [Rd.run_bind'] at h
      obtain ⟨n, hfz, h⟩ := Rd.run_opt h
      obtain ⟨v2, hv2, h⟩ := Rd.run_opt h
      obtain ⟨hpl, h⟩ := Rd.run_guard h
      obtain ⟨hc, h⟩ := Rd.run_moveU hg h
      simp only [Rd.run_pure] at h
      rcases hp with ⟨hnil, _⟩ | ⟨ad, hw, hcell⟩
      · cases hnil
      · obtain ⟨f, z, hf, hz, hfz', hrep⟩ := rep_frzM _ _ _ _ _ _ _ hfz (R.nd q) hroot.1
        have R1 := R.shareSub h1 hf hz hfz' hrep
        obtain ⟨c1, f1, hc1, hr1, _, _, _⟩ := readV (s :: p) t n x _ _ v2 ad hrep hv2 hw
        have hty := getP_tyK _ _ _ _ _ _ _ _ hu hv2
        have hcc : cs = c1 := cellsAt_inj hcell hc1 (by rw [hl, rep_len _ _ _ _ _ hr1, hty])
        subst hcc
        obtain ⟨t2, m2, x2⟩ := v2
        have hm := plain_md hpl
        simp only at hm hty
        subst hm
        have hf1 := rep_s_fp _ _ _ _ hr1
        subst hf1
        have R2 := R1.holdPlain (v := ⟨t2, .s, x2⟩) (vrel_pack hr1)
        have e2 : pack u.t cs = pack t2 cs := by rw [hty]
        rw [e2]
        exact ⟨_, _, _, _, h, fun _ h => .inl h, R2, Env.length_put _ _, hc⟩

theorem take0_run {ρ : Type} {c : List GI} {d : Option Nat} {o : Operand} {sl : Sl} {v : Value} {K : TV → Env → Option ρ} {r : ρ} (hg : gOf c = true) (R : RelX B G F H env ts w) (ho : OpRel G F env ts w o sl v)
    (h : (take0 o sl.e).run c d env K = some r) : ∃ u G' F' env', K u env' = some r ∧ (∀ b, G b → G' b) ∧ RelX B G' F' (H ++ [(u, v)]) env' ts w ∧ env'.length = env.length ∧ Kept c env env' := by
  have ho2 : sl.e ≠ .undef → match slotOf o with
    | some s => s < env.length ∧ sl.ep = (env.get s).ep ∧ sl.wc = (env.get s).wc ∧ ((env.get s).e = sl.e ∨ ∃ g, (env.get s).e = .g g sl.e ∧ gOf g = true) ∧ slotRel G w env ts sl.e v (F s)
    | none => ∃ t m x, sl.e = .val t m x ∧ vrel G w t m x v [] := fun hu => ho.2.resolve_left hu
  have hval : ∀ s, slotOf o = some s → v = ts.getD s undef := fun s hs => by
    have := ho.1
    cases o <;> simp only [slotOf] at hs <;> try cases hs
    exact this
  obtain ⟨e, he⟩ : ∃ e, sl.e = e := ⟨_, rfl⟩
  rw [he] at h
  cases e with
  | val t m x =>
    have ho3 := ho2 (by rw [he]; simp)
    have plainCase : (∃ f, vrel G w t m x v f ∧ f = []) → K ⟨t, m, x⟩ env = some r →
        ∃ u G' F' env', K u env' = some r ∧ (∀ b, G b → G' b) ∧ RelX B G' F' (H ++ [(u, v)]) env' ts w ∧ env'.length = env.length ∧ Kept c env env' := by
      rintro ⟨f, hv, rfl⟩ h
      exact ⟨⟨t, m, x⟩, G, F, env, h, fun _ h => h, R.holdPlain hv, rfl, Kept.refl _ _⟩
    cases hs : slotOf o with
    | none =>
      rw [hs] at ho3
      obtain ⟨t', m', x', he', hrel⟩ := ho3
      rw [he] at he'
      cases he'
      cases hp : m.plain <;> simp only [take0, hs, hp, Rd.run_pure] at h <;> exact plainCase ⟨[], hrel, rfl⟩ h
    | some s =>
      rw [hs] at ho3
      obtain ⟨hlt, _, _, _, hrel⟩ := ho3
      rw [he] at hrel
      cases hp : m.plain with
      | true =>
        simp only [take0, hs, hp] at h
        have hm := plain_md hp
        subst hm
        exact plainCase ⟨F s, hrel, rep_s_fp _ _ _ _ hrel.1⟩ h
      | false =>
        simp only [take0, hs, hp, Rd.run_bind'] at h
        obtain ⟨hc, h⟩ := Rd.run_moveU hg h
        simp only [Rd.run_pure] at h
        have hv : vrel G w t m x v (F s) := hrel
        have e := hval s hs
        subst e
        exact ⟨⟨t, m, x⟩, _, _, _, h, fun _ h => h, R.moveOut hlt hv, Env.length_put _ _, hc⟩
  | addr q ep p =>
    have ho3 := ho2 (by rw [he]; simp)
    have hrel : slotRel G w env ts (.addr q ep p) v [] := by
      cases hs : slotOf o with
      | some s => rw [hs] at ho3; have := ho3.2.2.2.2; rw [he] at this; exact ⟨rfl, this.2⟩
      | none => rw [hs] at ho3; obtain ⟨t', m', x', he', _⟩ := ho3; rw [he] at he'; cases he'
    match p, h, hrel with
    | [.der], h, hrel =>
      simp only [take0, Rd.run_bind'] at h
      obtain ⟨t, m, x, h1, h2, h⟩ := root_run h
      obtain ⟨hc, h⟩ := Rd.run_moveU hg h
      simp only [Rd.run_pure] at h
      obtain ⟨_, _, hrel⟩ := hrel
      obtain ⟨t', m', x', u, ad, hr', hu, hw, hvv⟩ := hrel h2
      rw [h1] at hr'
      cases hr'
      obtain ⟨hlt, hroot⟩ := R.rootVal h1
      have hvts : v = ts.getD q undef := by
        rw [hvv]
        obtain ⟨a, rfl, hcs⟩ := walkV_der hw
        simp only [unpack, Ty.agg, if_false, Bool.false_eq_true, List.cons.injEq, and_true] at hcs
        exact hcs.symm
      subst hvts
      exact ⟨_, _, _, _, h, fun _ h => h, R.moveOut hlt hroot, Env.length_put _ _, hc⟩
    | [], h, _ => simp [take0] at h
    | .fst :: _, h, _ => simp [take0] at h
    | .snd :: _, h, _ => simp [take0] at h
    | .idx _ :: _, h, _ => simp [take0] at h
    | .der :: _ :: _, h, _ => simp [take0] at h
  | pref q ep wc p =>
    obtain ⟨_, hrel⟩ := ho.ent he (by simp) (by simp)
    exact take0_pref hg R ⟨rfl, hrel.2⟩ h
  | _ => simp [take0] at h

theorem take_run {ρ : Type} {c : List GI} {d : Option Nat} {o : Operand} {sl : Sl} {v : Value} {K : TV → Env → Option ρ} {r : ρ} (hg : gOf c = true) (R : RelX B G F H env ts w) (ho : OpRel G F env ts w o sl v)
    (h : (take o sl.e).run c d env K = some r) : ∃ u G' F' env', K u env' = some r ∧ (∀ b, G b → G' b) ∧ RelX B G' F' (H ++ [(u, v)]) env' ts w ∧ env'.length = env.length ∧ Kept c env env' := by
  unfold take at h
  split at h
  · rename_i q ep wc p sz l hh he
    obtain ⟨f, _, A, n, cap, h2, h3, h4, rfl⟩ := ho.ent he (by simp) (by simp)
    rw [Rd.run_bind'] at h
    obtain ⟨u, G', F', env', h, hG', R', hl, hk⟩ := take0_pref hg R h2 h
    obtain ⟨a, m, xs, rfl, rfl, hm, h⟩ := winTV_run h
    obtain ⟨F2, R2⟩ := R'.narrow hm h3 h4
    exact ⟨_, G', F2, env', h, hG', R2, hl, hk⟩
  · exact take0_run hg R ho h

/-- what is held is seen under another mark -/
theorem RelX.coe {u : TV} {v : Value} (R : RelX B G F (H ++ [(u, v)]) env ts w) {m : Md} (hc : coeOk u.t u.m m u.x = true) :
    ∃ G' F', (∀ b, G b → G' b) ∧ RelX B G' F' (H ++ [(⟨u.t, m, u.x⟩, v)]) env ts w := by
  have hv : vrel G w u.t u.m u.x v (F (env.length + H.length)) := R.held H.length (u, v) (by simp)
  obtain ⟨f, z, hf, hz, hfz, hrep⟩ := rep_coe _ _ _ _ _ _ hc (R.nd _) hv.1
  have hGz : ∀ b, (G b ∨ blks z b) → ∀ j, j ≠ env.length + H.length → ¬ blks (F j) b := by
    rintro b (hb | ⟨q, hq, rfl⟩) j hj ⟨r, hr, e⟩
    · exact (R.ok j r hr).1 (e ▸ hb)
    · exact R.ap j _ hj r hr q (hz.subset hq) e
  refine ⟨fun b => G b ∨ blks z b, upd F (env.length + H.length) f, fun _ h => .inl h, ?_⟩
  have grow : ∀ {t m x v f}, vrel G w t m x v f → vrel (fun b => G b ∨ blks z b) w t m x v f := fun h =>
    vrel_frame (X := fun _ _ => False) (Same.refl _ w) (fun _ h => .inl h) (fun _ _ h => h.elim) (fun _ _ _ h => h) h
  refine { len := R.len, slot := fun i hi => ?_, held := fun k h hk => ?_, out := fun i hi => ?_, nd := fun i => ?_, ap := fun i j hij => ?_, ok := fun i r hr => ?_,
           g0 := fun b hb => .inl (R.g0 b hb), gl := fun b hb => ?_, turn := R.turn, chain := R.chain, lent := R.lent }
  · rw [upd_other F f (by omega)]
    exact slotRel_G (fun _ h => .inl h) _ _ _ (R.slot i hi)
  · by_cases hkl : k < H.length
    · rw [List.getElem?_append_left hkl] at hk
      rw [upd_other F f (by omega)]
      exact grow (R.held k h (by rw [List.getElem?_append_left hkl]; exact hk))
    · rw [List.getElem?_append_right (by omega)] at hk
      have hk0 : k - H.length = 0 := by
        have := (List.getElem?_eq_some_iff.1 hk).1
        simp at this
        exact this
      rw [hk0] at hk
      simp only [List.getElem?_cons_zero, Option.some.injEq] at hk
      subst hk
      have : k = H.length := by omega
      subst this
      rw [upd_same]
      exact ⟨hrep, hv.2⟩
  · rw [upd_other F f (by simp at hi; omega)]
    exact R.out i (by simpa using hi)
  · unfold upd; split
    · exact (R.nd _).sub hf
    · exact R.nd i
  · unfold upd
    split <;> split
    · omega
    · rename_i h1 h2; exact fun r hr q hq => R.ap _ j (Ne.symm h2) r (hf.subset hr) q hq
    · rename_i h1 h2; exact fun r hr q hq => R.ap i _ h1 r hr q (hf.subset hq)
    · exact R.ap i j hij
  · unfold upd at hr
    split at hr
    · refine ⟨?_, (R.ok _ r (hf.subset hr)).2⟩
      rintro (h | ⟨q, hq, e⟩)
      · exact (R.ok _ r (hf.subset hr)).1 h
      · exact hfz r hr q hq e.symm
    · rename_i hne
      exact ⟨fun h => hGz _ h i hne ⟨r, hr, rfl⟩, (R.ok i r hr).2⟩
  · rcases hb with hb | ⟨q, hq, rfl⟩
    · exact R.gl b hb
    · obtain ⟨_, h2, h3⟩ := R.ok _ q (hz.subset hq)
      exact ⟨h2, .inr (h3.imp id fun ⟨z, hz, e, _⟩ => ⟨z, hz, e⟩)⟩

end
end Go.VL

namespace Go.VL

/-! ### The program's types -/
def isZs (f : List Value → Bool) (sz : Nat) : Nat → List Value → Bool
  | 0, cs => cs.isEmpty
  | n + 1, cs => f (cs.take sz) && isZs f sz n (cs.drop sz)

def isZ : Ty → List Value → Bool
  | .int k, cs => match cs with | [.int k' n] => k == k' && n == 0 | _ => false
  | .bool, cs => match cs with | [.bool b] => !b | _ => false
  | .str, cs => match cs with | [.string s] => s.data.toList.isEmpty | _ => false
  | .unit, cs => match cs with | [] => true | _ => false
  | .list _, cs => match cs with | [.slice none 0 0] => true | _ => false
  | .ptr _, cs => match cs with | [.pointer none] => true | _ => false
  | .fn, cs => match cs with | [.nilFunc] => true | _ => false
  | .pair a b, cs => isZ a (cs.take a.sz) && isZ b (cs.drop a.sz)
  | .arr n a, cs => isZs (isZ a) a.sz n cs

theorem isZ_rep {G : Nat → Prop} {w : World} : ∀ (t : Ty) (cs : List Value), isZ t cs = true → rep G w t (zmd t) t.zero cs [] := by
  intro t
  induction t with
  | int k =>
    intro cs h
    rcases cs with _ | ⟨v, _ | ⟨v2, cs⟩⟩ <;> (try cases v) <;> simp only [isZ] at h <;> try cases h
    simp only [Bool.and_eq_true, beq_iff_eq] at h
    obtain ⟨rfl, rfl⟩ := h
    exact ⟨rfl, rfl⟩
  | bool =>
    intro cs h
    rcases cs with _ | ⟨v, _ | ⟨v2, cs⟩⟩ <;> (try cases v) <;> simp only [isZ] at h <;> try cases h
    simp only [Bool.not_eq_true'] at h
    subst h
    exact ⟨rfl, rfl⟩
  | str =>
    intro cs h
    rcases cs with _ | ⟨v, _ | ⟨v2, cs⟩⟩ <;> (try cases v) <;> simp only [isZ] at h <;> try cases h
    rename_i s
    refine ⟨⟨s, rfl, ?_⟩, rfl⟩
    simp only [List.isEmpty_iff] at h
    simp [bytesV, h, Ty.zero]
  | unit =>
    intro cs h
    rcases cs with _ | ⟨v, cs⟩
    · exact ⟨rfl, rfl⟩
    · simp [isZ] at h
  | list a ih =>
    intro cs h
    rcases cs with _ | ⟨v, _ | ⟨v2, cs⟩⟩
    · simp [isZ] at h
    · cases v <;> (try (simp [isZ] at h; done))
      rename_i A l c
      cases A <;> cases l <;> cases c <;> simp [isZ] at h
      exact .inl ⟨rfl, rfl, rfl⟩
    · cases v <;> simp [isZ] at h
  | ptr a ih =>
    intro cs h
    rcases cs with _ | ⟨v, _ | ⟨v2, cs⟩⟩
    · simp [isZ] at h
    · cases v <;> (try (simp [isZ] at h; done))
      rename_i A
      cases A <;> simp [isZ] at h
      exact ⟨rfl, rfl, rfl⟩
    · cases v <;> simp [isZ] at h
  | fn =>
    intro cs h
    rcases cs with _ | ⟨v, _ | ⟨v2, cs⟩⟩ <;> (try cases v) <;> simp only [isZ] at h <;> try cases h
    exact ⟨rfl, rfl⟩
  | pair a b iha ihb =>
    intro cs h
    unfold isZ at h
    simp only [Bool.and_eq_true] at h
    refine ⟨cs.take a.sz, cs.drop a.sz, [], [], ?_, ?_, (List.take_append_drop _ _).symm, rfl⟩
    · simp only [zmd, Md.mk_l]; exact iha _ h.1
    · simp only [zmd, Md.mk_r]; exact ihb _ h.2
  | arr n a ih =>
    intro cs h
    have h : isZs (isZ a) a.sz n cs = true := h
    have he : (zmd (.arr n a)).e = zmd a := by
      simp only [zmd]
      cases zmd a <;> rfl
    refine ⟨by simp [Ty.zero], ?_⟩
    rw [he]
    show repA _ (List.replicate n a.zero) cs []
    have : ∀ n cs, isZs (isZ a) a.sz n cs = true → repA (rep G w a (zmd a)) (List.replicate n a.zero) cs [] := by
      intro n
      induction n with
      | zero => intro cs h; unfold isZs at h; simp only [List.isEmpty_iff] at h; exact ⟨h, rfl⟩
      | succ n ih2 =>
        intro cs h
        unfold isZs at h
        simp only [Bool.and_eq_true] at h
        exact ⟨cs.take a.sz, cs.drop a.sz, [], [], ih _ h.1, ih2 _ h.2, (List.take_append_drop _ _).symm, rfl⟩
    exact this n cs h

def fieldsChk (ty : TypeId → Option Ty) : List Field → Nat → Ty → Bool
  | [], _, .unit => true
  | f :: fs, off, .pair a b => f.offset == off && (match ty f.type with | some a' => decide (a' = a) | none => false) && a.sz != 0 && f.name != "_" && fieldsChk ty fs (off + a.sz) b
  | _, _, _ => false

def descChk (ty : TypeId → Option Ty) : Ty → TypeDesc → Bool
  | .int k, .int k' => k == k'
  | .bool, .bool => true
  | .str, .string => true
  | .unit, .struct fs => fs.toList.isEmpty
  | .pair a b, .struct fs => fieldsChk ty fs.toList 0 (.pair a b)
  | .list a, .slice e => (match ty e with | some a' => decide (a' = a) | none => false) && a.sz != 0
  | .arr n a, .array n' e => n == n' && (match ty e with | some a' => decide (a' = a) | none => false) && a.sz != 0
  | .ptr a, .pointer e => (match ty e with | some a' => decide (a' = a) | none => false) && a.sz != 0
  | .fn, .func _ _ _ => true
  | _, _ => false

def tyChk (P : Program) (ty : TypeId → Option Ty) (T : TypeId) (t : Ty) : Bool :=
  match P.info? T, P.underlying T with
  | some i, some d => i.size == t.sz && decide (i.bytes ≤ 65536) && descChk ty t d &&
      (match i.zero with
       | some (.agg cs) => t.agg && isZ t cs.toList
       | some v => !t.agg && isZ t [v]
       | none => false)
  | _, _ => false

structure TyF (P : Program) (C : Ctx) (T : TypeId) (t : Ty) : Prop where
  size : ∀ w, (sizeOf T).run P w = .ok t.sz w
  agg : ∀ w, (isAgg T).run P w = .ok t.agg w
  zero : ∃ cs, (∀ w, (zeroValue T).run P w = .ok (pack t cs) w) ∧ isZ t cs = true
  bytes : ∃ i, (∀ w, (typeInfo T).run P w = .ok i w) ∧ i.bytes ≤ 65536
  und : ∃ d, P.underlying T = some d ∧ descChk C.ty t d = true

theorem tyF {P : Program} {C : Ctx} {T : TypeId} {t : Ty} (h : tyChk P C.ty T t = true) : TyF P C T t := by
  unfold tyChk at h
  split at h
  case h_2 => cases h
  rename_i i d hi hd
  simp only [Bool.and_eq_true, beq_iff_eq, decide_eq_true_eq] at h
  obtain ⟨⟨⟨hs, hb⟩, hdc⟩, hz⟩ := h
  have info : ∀ w, (typeInfo T).run P w = .ok i w := fun w => by simp [typeInfo, hi]
  refine { size := fun w => by simp [sizeOf, info, hs], agg := fun w => ?_, zero := ?_, bytes := ⟨i, info, hb⟩, und := ⟨d, hd, hdc⟩ }
  · simp only [isAgg, Sem.run_bind, run_underlying hd, Result.andThen_ok]
    cases t <;> cases d <;> simp only [descChk] at hdc <;> first | rfl | cases hdc
  · split at hz
    · rename_i cs hz'
      simp only [Bool.and_eq_true] at hz
      exact ⟨cs.toList, fun w => by simp [zeroValue, info, hz', pack, hz.1], hz.2⟩
    · rename_i v hne hz'
      simp only [Bool.and_eq_true, Bool.not_eq_true'] at hz
      exact ⟨[v], fun w => by simp [zeroValue, info, hz', pack, hz.1], hz.2⟩
    · cases hz

/-- all of the table's types are as the program has them -/
def TysOk (P : Program) (C : Ctx) : Prop := ∀ T t, C.ty T = some t → tyChk P C.ty T t = true

/-! ### Loads and stores -/
theorem pack_cells {t : Ty} {cs : List Value} (hl : cs.length = t.sz) (h1 : ∀ v ∈ cs, v.oneCell' = true) : (pack t cs).cells.toList = cs := by
  unfold pack
  by_cases ha : t.agg = true
  · simp [ha, Value.cells]
  · simp only [ha, if_false, Bool.false_eq_true]
    have hz : t.sz = 1 := by cases t <;> first | rfl | simp [Ty.agg] at ha
    rw [hz] at hl
    match cs, hl with
    | [v], _ =>
      have := h1 v (by simp)
      cases v <;> first | rfl | simp [Value.oneCell'] at this

theorem run_loadVar {P : Program} {C : Ctx} {T : TypeId} {t : Ty} (f : TyF P C T t) {w : World} {ad : Addr} {cs : List Value} (hl : cs.length = t.sz) (hc : cellsAt w ad cs) :
    (loadVar T ad).run P w = .ok (pack t cs) w := by
  simp only [loadVar, Sem.run_bind, f.agg, Result.andThen_ok]
  by_cases ha : t.agg = true
  · simp only [ha, if_true, Sem.run_bind, f.size, Result.andThen_ok, ← hl, run_loadCells_list w ad cs hc, pack]
    rfl
  · simp only [ha, if_false, Bool.false_eq_true, pack, run_load]
    have hz : t.sz = 1 := by cases t <;> first | rfl | simp [Ty.agg] at ha
    rw [hz] at hl
    match cs, hl with
    | [v], _ =>
      have := hc 0 v rfl
      simp only [Addr.add, if_true] at this
      simp [this]

def rng (b o n : Nat) : Nat → Nat → Prop := fun p i => p = b ∧ o ≤ i ∧ i < o + n

theorem setCell_turn (w : World) (b o : Nat) (v : Value) : Turn (rng b o 1) w (w.setCell ⟨b, o, none⟩ v) where
  size := by simp
  shape := fun p c e f hp => by
    simp only [World.setCell, Array.getElem?_modify]
    by_cases h : b = p
    · subst h
      simp only [if_true, hp, Option.map_some]
      exact ⟨_, rfl, by simp⟩
    · exact ⟨c, by simp [h, hp], rfl⟩
  cell := fun a hlt hx => by
    rw [World.cell?_setCell_other]
    intro e
    rw [← e] at hx
    exact hx rfl ⟨rfl, Nat.le_refl _, Nat.lt_succ_self _⟩
  os := rfl
  tape := rfl
  output := rfl
  block := fun p hp hx => by
    have hne : p ≠ b := fun e => hx o ⟨e, Nat.le_refl _, Nat.lt_succ_self _⟩
    simp only [World.setCell, Array.getElem?_modify]
    simp [Ne.symm hne]

theorem cell_of_span {w : World} {b hi o : Nat} (h : spanOk w b hi) (ho : o < hi) : (∃ u, w.cell? ⟨b, o, none⟩ = some u) ∧ w.frozen? ⟨b, o, none⟩ = false := by
  obtain ⟨c, e, hb, hc⟩ := h
  refine ⟨⟨c[o], ?_⟩, ?_⟩
  · simp [World.cell?, hb, Array.getElem?_eq_getElem (show o < c.size by omega)]
  · simp [World.frozen?, hb]

theorem run_storeCells {P : Program} : ∀ (cs : List Value) (w : World) (b o i : Nat), spanOk w b (o + i + cs.length) → (∀ v ∈ cs, v.oneCell' = true) →
    ∃ w', (storeCells ⟨b, o, none⟩ cs i).run P w = .ok () w' ∧ Turn (rng b (o + i) cs.length) w w' ∧ cellsAt w' ⟨b, o + i, none⟩ cs
  | [], w, b, o, i, _, _ => ⟨w, rfl, Turn.refl _ w, cellsAt_nil⟩
  | v :: cs, w, b, o, i, hsp, h1 => by
    obtain ⟨⟨u, hu⟩, hfz⟩ := cell_of_span (o := o + i) hsp (by simp)
    have ht := setCell_turn w b (o + i) v
    obtain ⟨w', hrun, ht', hc'⟩ := run_storeCells (P := P) cs (w.setCell ⟨b, o + i, none⟩ v) b o (i + 1) (ht.toSame.span (by simpa [Nat.add_assoc, Nat.add_comm 1] using hsp)) (fun x hx => h1 x (by simp [hx]))
    refine ⟨w', ?_, ?_, ?_⟩
    · simp only [storeCells, Sem.run_bind, add_mk, run_store P w _ v _ (h1 v (by simp)), hu, hfz, Bool.false_eq_true, if_false, Result.andThen_ok]
      exact hrun
    · refine ht.trans ht' (fun p j _ hx => ?_) (fun p j _ hx => ?_)
      · obtain ⟨h2, h3, h4⟩ := hx
        exact ⟨h2, h3, by simp; omega⟩
      · obtain ⟨h2, h3, h4⟩ := hx
        exact ⟨h2, by omega, by simp; omega⟩
    · intro j x hj
      rw [add_mk]
      cases j with
      | zero =>
        simp only [List.getElem?_cons_zero, Option.some.injEq] at hj
        subst hj
        have h0 : (w.setCell ⟨b, o + i, none⟩ v).cell? ⟨b, o + i, none⟩ = some v := World.cell?_setCell_same w _ _ hu
        exact ht'.toSame.cellSome h0 (fun ⟨_, h, _⟩ => by simp at h; omega)
      | succ j =>
        simp only [List.getElem?_cons_succ] at hj
        have := hc' j x hj
        rw [add_mk] at this
        rwa [show o + i + (j + 1) = o + (i + 1) + j by omega]

theorem run_storeVar {P : Program} {C : Ctx} {T : TypeId} {t : Ty} (f : TyF P C T t) {w : World} {b o : Nat} {cs : List Value} (hl : cs.length = t.sz) (h1 : ∀ v ∈ cs, v.oneCell' = true) (hsp : spanOk w b (o + t.sz)) :
    ∃ w', (storeVar T ⟨b, o, none⟩ (pack t cs)).run P w = .ok () w' ∧ Turn (rng b o t.sz) w w' ∧ cellsAt w' ⟨b, o, none⟩ cs := by
  have hcells := pack_cells hl h1
  have hsz : (pack t cs).cells.size = t.sz := by
    have := congrArg List.length hcells
    rw [Array.length_toList] at this
    rw [this, hl]
  obtain ⟨w', hr, ht, hc⟩ := run_storeCells (P := P) cs w b o 0 (by simpa [hl] using hsp) h1
  refine ⟨w', ?_, by simpa [hl] using ht, by simpa using hc⟩
  simp only [storeVar, Sem.run_bind, f.size, Result.andThen_ok, hsz, ne_eq, not_true_eq_false, if_false, hcells]
  simpa using hr

theorem alloc_turn (w : World) (o : Obj) : Turn (fun _ _ => False) w (w.alloc o) where
  size := by simp
  shape := fun p c e f hp => ⟨c, by
    simp only [World.alloc, Array.getElem?_push]
    have : p ≠ w.heap.size := fun e => by subst e; simp at hp
    simp [this, hp], rfl⟩
  cell := fun a hlt _ => World.cell?_alloc_lt w o a hlt
  os := rfl
  tape := rfl
  output := rfl
  block := fun p hp _ => Go.RowKit.Below.heap_alloc w o p hp

end Go.VL

namespace Go.VL

def setO (ts : List Value) : Option Nat → Value → List Value
  | some d, v => ts.set d v
  | none, _ => ts

/-- an operation has been carried out: the model's value, and the slots behind it -/
def OpOut {ρ : Type} (P : Program) (B : Base) (env : Env) (ts : List Value) (w : World) (o : Oper) (K : Unit → Env → Option ρ) (r : ρ) : Prop :=
  ∃ v w' G' F' env', ((execOp (evalO ts) o).run P w = .ok (.value v) w' ∨ ((execOp (evalO ts) o).run P w = .ok .skip w' ∧ v = undef)) ∧
    K () env' = some r ∧ RelX B G' F' [] env' (setO ts o.dst v) w' ∧ env'.length = env.length

section
variable {P : Program} {C : Ctx} {B : Base} {G : Nat → Prop} {F : Nat → List Res} {H : List (TV × Value)} {env : Env} {ts : List Value} {w : World}

theorem Cur.moved {c : List GI} {env' : Env} (h : Cur env c) (he : Kept c env env') : Cur env' c := by
  rcases he with rfl | he
  · intro b hb; simp at hb
  · intro b hb; rw [he b hb]; exact h b hb

theorem set_val {ρ : Type} {c : List GI} {d : Nat} {u : TV} {v : Value} {K : Unit → Env → Option ρ} {r : ρ} (R : RelX B G F [(u, v)] env ts w) (hc : Cur env c) (hg : gOf c = true) (hl : ∀ l ∈ B.lents, l.1 ≠ d)
    (h : (Rd.set d .all (.val u.t u.m u.x)).run c (some d) env K = some r) : ∃ F' env', K () env' = some r ∧ RelX B G F' [] env' (ts.set d v) w ∧ env'.length = env.length := by
  have hch : ∀ a ∈ c, a.ep ≤ (env.get a.slot).ep ∧ ((env.get a.slot).ep = a.ep → gval (env.get a.slot).e = some a.v) := fun a ha => by
    obtain ⟨h1, h2⟩ := hc a ha
    exact ⟨by omega, fun _ => h2⟩
  by_cases hd : d < env.length
  · rcases Rd.run_set h with ⟨rfl, h⟩ | ⟨_, _, h⟩
    · exact ⟨_, _, h, RelX.unhold (H := []) R hd [] rfl (by simp) hl (.inl rfl), Env.length_put _ _⟩
    · exact ⟨_, _, h, RelX.unhold (H := []) R hd c hg hch hl (.inr rfl), Env.length_put _ _⟩
  · have e1 : ∀ e, env.put ⟨d, .all, e⟩ = env := fun e => by simp [Env.put, List.set_eq_of_length_le (Nat.le_of_not_lt hd)]
    have e2 : ts.set d v = ts := List.set_eq_of_length_le (by rw [← R.len]; exact Nat.le_of_not_lt hd)
    rw [e2]
    rcases Rd.run_set h with ⟨_, h⟩ | ⟨_, _, h⟩ <;> rw [e1] at h <;> exact ⟨_, _, h, RelX.dropHeld (H := []) R, rfl⟩

theorem set_ref {ρ : Type} {c : List GI} {d : Nat} {e : Entry} {v : Value} {K : Unit → Env → Option ρ} {r : ρ} (R : RelX B G F [] env ts w) (hc : Cur env c) (hg : gOf c = true) (hl : ∀ l ∈ B.lents, l.1 ≠ d)
    (hrel : slotRel G w env ts e v []) (hne : ∀ g e', e ≠ .g g e')
    (h : (Rd.set d .all e).run c (some d) env K = some r) : ∃ F' env', K () env' = some r ∧ RelX B G F' [] env' (ts.set d v) w ∧ env'.length = env.length := by
  have hch : ∀ a ∈ c, a.ep ≤ (env.get a.slot).ep ∧ ((env.get a.slot).ep = a.ep → gval (env.get a.slot).e = some a.v) := fun a ha => by
    obtain ⟨h1, h2⟩ := hc a ha
    exact ⟨by omega, fun _ => h2⟩
  by_cases hd : d < env.length
  · rcases Rd.run_set h with ⟨rfl, h⟩ | ⟨_, _, h⟩
    · exact ⟨_, _, h, R.setSlot hd (slotRel_put hd _ _ _ hrel) List.Pairwise.nil (fun _ _ r hr => by simp at hr) (fun r hr => by simp at hr) (fun g e' he => absurd he (hne g e')) (fun l hl' he => absurd he (hl l hl')), Env.length_put _ _⟩
    · refine ⟨_, _, h, R.setSlot hd ?_ List.Pairwise.nil (fun _ _ r hr => by simp at hr) (fun r hr => by simp at hr) (fun g e' he => ?_) (fun l hl' he => absurd he (hl l hl')), Env.length_put _ _⟩
      · simp only [slotRel, hg]; exact slotRel_put hd _ _ _ hrel
      · cases he; exact hch
  · have e1 : ∀ e, env.put ⟨d, .all, e⟩ = env := fun e => by simp [Env.put, List.set_eq_of_length_le (Nat.le_of_not_lt hd)]
    have e2 : ts.set d v = ts := List.set_eq_of_length_le (by rw [← R.len]; exact Nat.le_of_not_lt hd)
    rw [e2]
    rcases Rd.run_set h with ⟨_, h⟩ | ⟨_, _, h⟩ <;> rw [e1] at h <;> exact ⟨_, _, h, R, rfl⟩

/-- a plain result is put into its slot -/
theorem set_plain {ρ : Type} {c : List GI} {d : Nat} {t : Ty} {m : Md} {x : t.den} {v : Value} {K : Unit → Env → Option ρ} {r : ρ} (R : RelX B G F [] env ts w) (hc : Cur env c) (hg : gOf c = true) (hl : ∀ l ∈ B.lents, l.1 ≠ d)
    (hv : vrel G w t m x v []) (h : (Rd.set d .all (.val t m x)).run c (some d) env K = some r) : ∃ F' env', K () env' = some r ∧ RelX B G F' [] env' (ts.set d v) w ∧ env'.length = env.length :=
  set_val (u := ⟨t, m, x⟩) (R.holdPlain (v := ⟨t, m, x⟩) hv) hc hg hl h

theorem castV_eq {t t' : Ty} {x : t.den} {y : t'.den} (h : castV t' x = some y) : ∃ e : t = t', e ▸ x = y := by
  unfold castV at h
  split at h
  · rename_i e
    simp only [Option.some.injEq] at h
    exact ⟨e, h⟩
  · cases h

variable {ρ : Type} {c : List GI} {K : Unit → Env → Option ρ} {r : ρ} {ty : TypeId} {pos : String} {after : Array Edge} {gd : Option (Nat × Bool)}

theorem OpRel.ref {o : Operand} {sl : Sl} {v : Value} {t : Ty} {x : t.den} (ho : OpRel G F env ts w o sl v) (he : sl.e = .ref t x) : slotRel G w env ts (.ref t x) v [] := by
  rcases ho.2 with hu | ho
  · rw [he] at hu; cases hu
  · cases hs : slotOf o with
    | some s =>
      rw [hs] at ho
      have := ho.2.2.2.2
      rw [he] at this
      exact ⟨rfl, this.2⟩
    | none =>
      rw [hs] at ho
      obtain ⟨t', m', x', he', _⟩ := ho
      rw [he] at he'
      cases he'

theorem op_move {x : Operand} {d : Nat} (R : RelX B G F [] env ts w) (hc : Cur env c) (hg : gOf c = true) (hl : ∀ l ∈ B.lents, l.1 ≠ d)
    (h : (opSem C c ⟨some d, .move x, ty, pos, after, gd⟩).run c (some d) env K = some r) : OpOut P B env ts w ⟨some d, .move x, ty, pos, after, gd⟩ K r := by
  have hex : (execOp (evalO ts) ⟨some d, .move x, ty, pos, after, gd⟩).run P w = .ok (.value (evalO ts x)) w := rfl
  simp only [opSem, Rd.run_bind'] at h
  have fin : (∃ F' env', K () env' = some r ∧ RelX B G F' [] env' (ts.set d (evalO ts x)) w ∧ env'.length = env.length) → OpOut P B env ts w ⟨some d, .move x, ty, pos, after, gd⟩ K r := by
    rintro ⟨F', env', h1, h2, h3⟩
    exact ⟨_, _, _, _, _, .inl hex, h1, h2, h3⟩
  have h0 : ∃ hd : Nat × Option Ty, (∀ s, slotOf x = some s → hd = hardOf (env.get s)) ∧ (slotOf x = none → hd = (0, none)) ∧ (match hd, slotOf x with
    | (e0, some _), some s => Rd.set d .all (.pref s e0 0 [])
    | _, _ => do
      let sl ← opnd c (C.ty ty) x
      match sl.e, slotOf x with
      | .val t m v, some s => match m.plain with
        | true => Rd.set d .all (.val t m v)
        | false => do
          let _ ← root s sl.ep []
          Rd.set d .all (.pref s sl.ep sl.wc [])
      | .val t m v, none => Rd.set d .all (.val t m v)
      | .addr r e p, _ => Rd.set d .all (.addr r e p)
      | .pref r e w p, _ => Rd.set d .all (.pref r e w p)
      | .ref t x, _ => Rd.set d .all (.ref t x)
      | .win e sz l h, _ => Rd.set d .all (.win e sz l h)
      | .cap e r ep, _ => Rd.set d .all (.cap e r ep)
      | .tup es, some s => do
        Rd.guard c.isEmpty
        Rd.move s .all .undef
        Rd.set d .all (.tup es)
      | _, _ => .fail).run c (some d) env K = some r := by
    cases hs : slotOf x with
    | some s => simp only [hs, Rd.run_hard] at h; exact ⟨_, fun s' hs' => by cases hs'; rfl, fun h => (by cases h), h⟩
    | none => simp only [hs, Rd.run_pure] at h; exact ⟨_, fun s' hs' => (by cases hs'), fun _ => rfl, h⟩
  clear h
  obtain ⟨hd, hh1, hh2, h⟩ := h0
  split at h
  · -- a box: its pointer
    rename_i e0 bt s hs
    have hhd := hh1 s hs
    have hval : evalO ts x = ts.getD s undef := by cases x <;> simp only [slotOf] at hs <;> cases hs; rfl
    simp only [hardOf, Prod.mk.injEq] at hhd
    obtain ⟨he0, hbt⟩ := hhd
    split at hbt
    · rename_i t m v he
      obtain ⟨hlt, hroot⟩ := R.rootVal he
      refine fin (set_ref R hc hg hl ?_ (fun _ _ => by simp) h)
      refine ⟨rfl, by omega, Nat.zero_le _, fun _ => ⟨_, _, _, _, he, rfl, fun _ => ⟨unpack (.ptr t) (ts.getD s undef), ?_, rep_len _ _ _ _ _ hroot.1, .inl ⟨rfl, rfl⟩⟩⟩⟩
      rw [hval]
      exact hroot.2.symm
    · cases hbt
  rw [Rd.run_bind'] at h
  obtain ⟨sl, h, ho⟩ := opnd_run R hc hg h
  have ho2 := ho.2
  split at h
  · -- a value in a slot
    rename_i t m x' s he hs
    rcases ho2 with hu | ho2
    · rw [hu] at he; cases he
    rw [hs] at ho2
    obtain ⟨hlt, hep, hwc, hent, hrel⟩ := ho2
    rw [he] at hrel hent
    split at h
    · rename_i hp
      have hm := plain_md hp
      subst hm
      have hf := rep_s_fp _ _ _ _ hrel.1
      exact fin (set_plain R hc hg hl (hf ▸ hrel) h)
    · rename_i hp
      rw [Rd.run_bind'] at h
      obtain ⟨t0, m0, x0, h0, _, h⟩ := root_run h
      refine fin (set_ref (e := .pref s sl.ep sl.wc []) R hc hg hl ?_ (fun _ _ => by simp) h)
      refine ⟨rfl, by rw [hep]; exact Nat.le_refl _, by rw [hwc]; exact Nat.le_refl _, fun _ => ?_⟩
      have hval : evalO ts x = ts.getD s undef := by cases x <;> simp only [slotOf] at hs <;> cases hs; rfl
      rcases hent with hent | ⟨g, hent, _⟩
      · refine ⟨t, m, x', ⟨t, m, x'⟩, hent, rfl, fun _ => ⟨unpack t (ts.getD s undef), ?_, ?_, .inl ⟨rfl, rfl⟩⟩⟩
        · rw [← hval]; exact hrel.2.symm
        · rw [← hval]; exact rep_len _ _ _ _ _ hrel.1
      · rw [h0] at hent; cases hent
  · rename_i t m x' he hs
    rcases ho2 with hu | ho2
    · rw [hu] at he; cases he
    rw [hs] at ho2
    obtain ⟨t', m', y', he', hrel⟩ := ho2
    rw [he] at he'
    cases he'
    exact fin (set_plain R hc hg hl hrel h)
  · rename_i q ep p he
    rcases ho2 with hu | ho2
    · rw [hu] at he; cases he
    have hrel : slotRel G w env ts (.addr q ep p) (evalO ts x) [] := by
      cases hs : slotOf x with
      | some s => rw [hs] at ho2; have := ho2.2.2.2.2; rw [he] at this; exact ⟨rfl, this.2⟩
      | none => rw [hs] at ho2; obtain ⟨t', m', x', he', _⟩ := ho2; rw [he] at he'; cases he'
    exact fin (set_ref R hc hg hl hrel (fun _ _ => by simp) h)
  · rename_i q ep wc p he
    rcases ho2 with hu | ho2
    · rw [hu] at he; cases he
    have hrel : slotRel G w env ts (.pref q ep wc p) (evalO ts x) [] := by
      cases hs : slotOf x with
      | some s => rw [hs] at ho2; have := ho2.2.2.2.2; rw [he] at this; exact ⟨rfl, this.2⟩
      | none => rw [hs] at ho2; obtain ⟨t', m', x', he', _⟩ := ho2; rw [he] at he'; cases he'
    exact fin (set_ref R hc hg hl hrel (fun _ _ => by simp) h)
  · rename_i t0 x0 he
    exact fin (set_ref R hc hg hl (ho.ref he) (fun _ _ => by simp) h)
  · rename_i e0 sz0 l0 h0 he
    obtain ⟨_, hrel⟩ := ho.ent he (by simp) (by simp)
    have h2 : slotRel G w env ts (.win e0 sz0 l0 h0) (evalO ts x) [] := ⟨rfl, hrel.2⟩
    exact fin (set_ref R hc hg hl h2 (fun _ _ => by simp) h)
  · rename_i e0 q0 ep0 he
    obtain ⟨_, hrel⟩ := ho.ent he (by simp) (by simp)
    have h2 : slotRel G w env ts (.cap e0 q0 ep0) (evalO ts x) [] := ⟨rfl, hrel.2⟩
    exact fin (set_ref R hc hg hl h2 (fun _ _ => by simp) h)
  · -- a tuple
    rename_i es s he hs
    rcases ho2 with hu | ho2
    · rw [hu] at he; cases he
    rw [hs] at ho2
    obtain ⟨hlt, hep, hwc, hent, hrel⟩ := ho2
    rw [he] at hrel
    rw [Rd.run_bind'] at h
    obtain ⟨hcn, h⟩ := Rd.run_guard h
    have hcn := List.isEmpty_iff.1 hcn
    subst hcn
    rw [Rd.run_bind'] at h
    obtain ⟨_, h⟩ := Rd.run_moveU hg h
    have hval : evalO ts x = ts.getD s undef := by cases x <;> simp only [slotOf] at hs <;> cases hs; rfl
    have R1 := R.setSlot (d := s) (e := .undef) (c := ts.getD s undef) (f := []) hlt trivial List.Pairwise.nil (fun _ _ r hr => by simp at hr) (fun r hr => by simp at hr) (fun _ _ h => by cases h) (fun _ _ _ _ _ _ h => by cases h)
    rw [set_getD_self] at R1
    refine fin ?_
    by_cases hd : d < env.length
    · rcases Rd.run_set h with ⟨_, h⟩ | ⟨h, _⟩
      · refine ⟨_, _, h, R1.setSlot (d := d) (e := .tup es) (c := evalO ts x) (f := F s) (by rw [Env.length_put]; exact hd) hrel (R.nd s) (fun j hj => ?_) (fun r hr => R.ok s r hr) (fun _ _ h => by cases h) (fun _ _ _ _ _ _ h => by cases h), by rw [Env.length_put, Env.length_put]⟩
        by_cases hjs : j = s
        · subst hjs; rw [upd_same]; intro r _ q hq; simp at hq
        · rw [upd_other F _ hjs]; exact R.ap s j (Ne.symm hjs)
      · exact absurd rfl h
    · have e1 : ∀ e, (env.put ⟨s, .all, .undef⟩).put ⟨d, .all, e⟩ = env.put ⟨s, .all, .undef⟩ := fun e => by
        have : (env.put ⟨s, .all, .undef⟩).length ≤ d := by rw [Env.length_put]; exact Nat.le_of_not_lt hd
        generalize env.put ⟨s, .all, .undef⟩ = env1 at this
        simp [Env.put, List.set_eq_of_length_le this]
      have e2 : ts.set d (evalO ts x) = ts := List.set_eq_of_length_le (by rw [← R.len]; exact Nat.le_of_not_lt hd)
      rw [e2]
      rcases Rd.run_set h with ⟨_, h⟩ | ⟨h, _⟩
      · rw [e1] at h
        exact ⟨_, _, h, R1, Env.length_put _ _⟩
      · exact absurd rfl h
  · simp at h

end
end Go.VL

namespace Go.VL

theorem getP_setP_ty : ∀ (p : List Step) (t : Ty) (m : Md) (x : t.den) (u v : TV) (n : Md × t.den), getP p t m x = some u → setP p t m x v = some n → v.t = u.t := by
  intro p
  induction p with
  | nil =>
    intro t m x u v n hg hs
    simp only [getP, Option.some.injEq] at hg
    subst hg
    simp only [setP, Option.map_eq_some_iff] at hs
    obtain ⟨y, hy, _⟩ := hs
    obtain ⟨e, _⟩ := castV_eq hy
    exact e
  | cons s p ih =>
    intro t m x u v n hg hs
    cases s <;> cases t <;> (try simp only [getP] at hg) <;> try (cases hg; done)
    case fst.pair => simp only [setP, Option.map_eq_some_iff] at hs; obtain ⟨q, hq, _⟩ := hs; exact ih _ _ _ _ _ _ hg hq
    case snd.pair => simp only [setP, Option.map_eq_some_iff] at hs; obtain ⟨q, hq, _⟩ := hs; exact ih _ _ _ _ _ _ hg hq
    case idx.list =>
      cases m <;> simp only [getP] at hg <;> simp only [setP] at hs <;> try cases hs
      simp only [Option.bind_eq_some_iff] at hs; obtain ⟨q, hq, _⟩ := hs; exact ih _ _ _ _ _ _ hg hq
    case idx.arr => simp only [setP, Option.bind_eq_some_iff] at hs; obtain ⟨q, hq, _⟩ := hs; exact ih _ _ _ _ _ _ hg hq
    case der.ptr =>
      cases m <;> simp only [getP] at hg <;> simp only [setP] at hs <;> try cases hs
      simp only [Option.map_eq_some_iff] at hs; obtain ⟨q, hq, _⟩ := hs; exact ih _ _ _ _ _ _ hg hq

/-- a path meets the same types whatever lies beside the addresses -/
theorem getP_noList : ∀ (p : List Step) (t : Ty) (m m' : Md) (x x' : t.den) (u : TV), t.hasList = false → getP p t m x = some u → ∃ u', getP p t m' x' = some u' ∧ u'.t = u.t := by
  intro p
  induction p with
  | nil => intro t m m' x x' u _ h; simp only [getP, Option.some.injEq] at h; subst h; exact ⟨_, rfl, rfl⟩
  | cons s p ih =>
    intro t m m' x x' u hl h
    cases s <;> cases t <;> (try simp only [getP] at h ⊢) <;> try (cases h; done)
    case fst.pair => simp only [Ty.hasList, Bool.or_eq_false_iff] at hl; exact ih _ _ _ _ _ _ hl.1 h
    case snd.pair => simp only [Ty.hasList, Bool.or_eq_false_iff] at hl; exact ih _ _ _ _ _ _ hl.2 h
    case idx.list => simp [Ty.hasList] at hl
    case idx.arr => exact ih _ _ _ _ _ _ hl h
    case der.ptr => simp [Ty.hasList] at hl

theorem getP_setP_ok : ∀ (p0 : List Step) (t : Ty) (m : Md) (x : t.den) (v : TV) (n : Md × t.den), setP p0 t m x v = some n → v.t.hasList = false →
    ∀ (p : List Step) (u : TV), getP p t m x = some u → ∃ u', getP p t n.1 n.2 = some u' ∧ u'.t = u.t := by
  intro p0
  induction p0 with
  | nil =>
    intro t m x v n hs hl p u hg
    simp only [setP, Option.map_eq_some_iff] at hs
    obtain ⟨y, hy, rfl⟩ := hs
    obtain ⟨e, _⟩ := castV_eq hy
    exact getP_noList p t m _ x _ u (e ▸ hl) hg
  | cons s p0 ih =>
    intro t m x v n hs hl p u hg
    -- a path's first step: into the turned part, or beside it
    cases p with
    | nil => simp only [getP, Option.some.injEq] at hg; subst hg; exact ⟨_, rfl, rfl⟩
    | cons s' p =>
      cases s <;> cases t <;> (try simp only [setP] at hs) <;> try (cases hs; done)
      case fst.pair a b =>
        simp only [Option.map_eq_some_iff] at hs
        obtain ⟨q, hq, rfl⟩ := hs
        cases s' <;> simp only [getP] at hg ⊢ <;> try cases hg
        · simp only [Md.mk_l]; exact ih _ _ _ _ _ hq hl p u hg
        · simp only [Md.mk_r]; exact ⟨u, hg, rfl⟩
      case snd.pair a b =>
        simp only [Option.map_eq_some_iff] at hs
        obtain ⟨q, hq, rfl⟩ := hs
        cases s' <;> simp only [getP] at hg ⊢ <;> try cases hg
        · simp only [Md.mk_l]; exact ⟨u, hg, rfl⟩
        · simp only [Md.mk_r]; exact ih _ _ _ _ _ hq hl p u hg
      case idx.list i a =>
        cases m <;> simp only [setP] at hs <;> try cases hs
        rename_i m
        simp only [Option.bind_eq_some_iff] at hs
        obtain ⟨q, hq, hs⟩ := hs
        split at hs <;> try cases hs
        rename_i hm
        cases s' <;> simp only [getP] at hg ⊢ <;> try cases hg
        rename_i j
        by_cases hij : i.toNat = j.toNat
        · rw [← hij] at hg ⊢
          by_cases hk : i.toNat < x.length
          · have e : (x.set i.toNat q.2).getD i.toNat a.zero = q.2 := by simp [List.getD, hk]
            rw [e, ← hm]
            exact ih _ _ _ _ _ hq hl p u hg
          · have e : (x.set i.toNat q.2) = x := List.set_eq_of_length_le (Nat.le_of_not_lt hk)
            rw [e]; exact ⟨u, hg, rfl⟩
        · have e : (x.set i.toNat q.2).getD j.toNat a.zero = x.getD j.toNat a.zero := by simp [List.getD, List.getElem?_set_ne hij]
          rw [e]; exact ⟨u, hg, rfl⟩
      case idx.arr i n a =>
        simp only [Option.bind_eq_some_iff] at hs
        obtain ⟨q, hq, hs⟩ := hs
        split at hs <;> try cases hs
        rename_i hm
        cases s' <;> simp only [getP] at hg ⊢ <;> try cases hg
        rename_i j
        by_cases hij : i.toNat = j.toNat
        · rw [← hij] at hg ⊢
          by_cases hk : i.toNat < x.length
          · have e : (x.set i.toNat q.2).getD i.toNat a.zero = q.2 := by simp [List.getD, hk]
            rw [e, ← hm]
            exact ih _ _ _ _ _ hq hl p u hg
          · have e : (x.set i.toNat q.2) = x := List.set_eq_of_length_le (Nat.le_of_not_lt hk)
            rw [e]; exact ⟨u, hg, rfl⟩
        · have e : (x.set i.toNat q.2).getD j.toNat a.zero = x.getD j.toNat a.zero := by simp [List.getD, List.getElem?_set_ne hij]
          rw [e]; exact ⟨u, hg, rfl⟩
      case der.ptr a =>
        cases m <;> simp only [setP] at hs <;> try cases hs
        simp only [Option.map_eq_some_iff] at hs
        obtain ⟨q, hq, rfl⟩ := hs
        cases s' <;> simp only [getP] at hg ⊢ <;> try cases hg
        simp only [Option.getD_some]
        exact ih _ _ _ _ _ hq hl p u hg


section
variable {P : Program} {C : Ctx} {B : Base} {G : Nat → Prop} {F : Nat → List Res} {H : List (TV × Value)} {env : Env} {ts : List Value} {w : World}
variable {ρ : Type} {c : List GI} {K : Unit → Env → Option ρ} {r : ρ} {ty : TypeId} {pos : String} {after : Array Edge} {gd : Option (Nat × Bool)}

/-- a held value is stored at a place -/
theorem putPlace_run {u : TV} {v : Value} {q ep : Nat} {p : List Step} {vp : Value} {d : Option Nat} {T : TypeId} (hg : gOf c = true) (R : RelX B G F (H ++ [(u, v)]) env ts w)
    (hrel : slotRel G w env ts (.addr q ep p) vp []) (hT : TyF P C T u.t) (h : (putPlace q ep p u false).run c d env K = some r) :
    ∃ b o, vp = .pointer (some ⟨b, o, none⟩) ∧ ∃ w', (storeVar T ⟨b, o, none⟩ v).run P w = .ok () w' ∧
      ∃ F' env', K () env' = some r ∧ RelX B G F' H env' ts w' ∧ env'.length = env.length ∧ Kept c env env' := by
  simp only [putPlace, Rd.run_bind'] at h
  obtain ⟨t, m, x, h1, h2, h⟩ := root_run h
  obtain ⟨n, hset, h⟩ := Rd.run_opt h
  obtain ⟨hcn, h⟩ := Rd.run_moveU hg h
  obtain ⟨_, _, hrel⟩ := hrel
  obtain ⟨t', m', x', u0, ad, hr', hu, hw, hvp⟩ := hrel h2
  rw [h1] at hr'
  cases hr'
  obtain ⟨hlt, hroot⟩ := R.rootVal h1
  have hut := getP_setP_ty _ _ _ _ _ _ _ hu hset
  obtain ⟨b, o, c1, f, pre, post, rfl, hc1, hr1, hF, hsp, hin, hupd⟩ := lensV p t m x _ _ u0 u ad n hroot.1 (R.nd q) (fun r hr => (R.ok q r hr).1) hu hw hut hset
  have hv : vrel G w u.t u.m u.x v (F (env.length + H.length)) := R.held H.length (u, v) (by simp)
  have hlv := rep_len _ _ _ _ _ hv.1
  obtain ⟨w', hst, htn, hcn'⟩ := run_storeVar hT (cs := unpack u.t v) hlv (rep_one _ _ _ _ _ hv.1) (by rw [hut]; exact hsp)
  rw [hv.2] at hst
  refine ⟨b, o, hvp, w', hst, ?_⟩
  obtain ⟨rb, hrb, hrb1, hrb2, hrb3⟩ := hin
  have hrbF : rb ∈ F q := by rw [hF]; simp at hrb ⊢; rcases hrb with h | h <;> simp [h]
  have hXG : ∀ b' i, rng b o u.t.sz b' i → ¬ G b' := fun b' i hx => by rw [hx.1, ← hrb1]; exact (R.ok q rb hrbF).1
  have hXF : ∀ b' i, rng b o u.t.sz b' i → ∀ j, j ≠ q → ¬ blks (F j) b' := fun b' i hx j hj ⟨z, hz, hze⟩ => R.ap q j (Ne.symm hj) rb hrbF z hz (by rw [hrb1, hze, hx.1])
  have hX0 : ∀ b' i, b' < B.w0.heap.size → rng b o u.t.sz b' i → B.X0 b' i := fun b' i hb hx => by
    obtain ⟨e1, e2, e3⟩ := hx
    rcases (R.ok q rb hrbF).2.2 with h | ⟨z, hz, z1, z2, z3⟩
    · omega
    · exact ⟨z, hz, by omega, by omega, by rw [hut] at e3; omega⟩
  have hkq : env.length + H.length ≠ q := by omega
  -- what is held stays while the place is written
  have hvk : vrel G w' u.t u.m u.x v (F (env.length + H.length)) := vrel_frame htn.toSame (fun _ h => h) hXG (fun z hz i hx => hXF _ _ hx _ hkq ⟨z, hz, rfl⟩) hv
  have hnew := hupd G w' (unpack u.t v) (F (env.length + H.length)) (fun _ h => h) (htn.toSame.mono (fun b' i hx => .inl (by rw [← hut]; exact hx))) hcn' hvk.1
  have ndF := R.nd q
  rw [hF] at ndF
  obtain ⟨ndp, nd2, nd3⟩ := ND.append.1 ndF
  obtain ⟨ndf, ndq, nd4⟩ := ND.append.1 nd2
  have hsub : ∀ z ∈ pre ++ post, z ∈ F q := fun z hz => by rw [hF]; simp at hz ⊢; rcases hz with h | h <;> simp [h]
  have apk : Apart (F (env.length + H.length)) (pre ++ post) := fun a ha z hz => R.ap _ q hkq a ha z (hsub z hz)
  have hf'mem : ∀ z ∈ pre ++ (F (env.length + H.length) ++ post), z ∈ pre ++ post ∨ z ∈ F (env.length + H.length) := fun z hz => by
    simp at hz ⊢
    rcases hz with h | h | h <;> simp [h]
  have R1 := R.dropHeld.setRoot (G' := G) (r := q) (m2 := n.1) (x2 := n.2) (f' := pre ++ (F (env.length + H.length) ++ post)) (w' := w') (X := rng b o u.t.sz) (b := putB false u.t.hasList p) h1 (fun _ h => h)
    (fun b' hb j hj ⟨z, hz, e⟩ => by
      unfold upd at hz
      split at hz
      · simp at hz
      · exact (R.ok j z hz).1 (e ▸ hb))
    (fun b' hb => ⟨Nat.lt_of_lt_of_le (R.gl b' hb).1 htn.size, (R.gl b' hb).2⟩) htn hXG
    (fun b' i hx j hj ⟨z, hz, e⟩ => by
      unfold upd at hz
      split at hz
      · simp at hz
      · exact hXF b' i hx j hj ⟨z, hz, e⟩) hX0 ⟨hnew, hroot.2⟩
    (ND.append.2 ⟨ndp, ND.append.2 ⟨R.nd _, ndq, fun a ha z hz => apk a ha z (by simp [hz])⟩, fun a ha z hz => by
      rcases List.mem_append.1 hz with hz | hz
      · exact (apk z hz a (by simp [ha])).symm
      · exact nd3 a ha z (by simp [hz])⟩)
    (fun j hj a ha z hz => by
      unfold upd at hz
      split at hz
      · simp at hz
      · rename_i hjk
        rcases hf'mem a ha with h | h
        · exact R.ap q j (Ne.symm hj) a (hsub a h) z hz
        · exact R.ap _ j (Ne.symm hjk) a h z hz)
    (fun z hz => by
      rcases hf'mem z hz with h | h
      · exact ⟨(R.ok q z (hsub z h)).1, Nat.lt_of_lt_of_le (R.ok q z (hsub z h)).2.1 htn.size, (R.ok q z (hsub z h)).2.2⟩
      · exact ⟨(R.ok _ z h).1, Nat.lt_of_lt_of_le (R.ok _ z h).2.1 htn.size, (R.ok _ z h).2.2⟩)
    (fun hb p2 u2 hk hg2 => by
      cases hli : u.t.hasList with
      | true =>
        have hk := hk (pat p) (by rw [hli]; rfl)
        have hXs : ∀ b' i, rng b o u.t.sz b' i → b' = b ∧ o ≤ i ∧ i < o + u0.t.sz := fun b' i hx => ⟨hx.1, hx.2.1, by rw [← hut]; exact hx.2.2⟩
        exact ⟨getP_keepL p t m x u n hset p2 u2 hk hg2, fun ad hw2 => ⟨walkV_keepL htn.toSame hXG p t m x _ _ u0 u _ n hroot.1 (R.nd q) hu hw hset c1 f (fun _ => False) hc1 hr1 (fun b' i h => .inl (hXs b' i h)) (fun _ h => h.elim) p2 u2 ad hk hg2 hw2,
          fun hk2 => (walkV_keep htn.toSame hXG p t m x _ _ u0 u _ n hroot.1 (R.nd q) hu hw hset c1 f (fun _ => False) hc1 hr1 (fun b' i h => .inl (hXs b' i h)) (fun _ h => h.elim) p2 u2 ad (hk2 (pat p) rfl) hg2 hw2).2⟩⟩
      | false =>
      have hip : ∀ (a : Addr) va, w.cell? a = some va → rng b o u.t.sz a.block a.off → isAddr va = false := fun a va hva hx => by
        obtain ⟨e1, e2, e3⟩ := hx
        have hlen : c1.length = u.t.sz := by rw [hut, rep_len _ _ _ _ _ hr1]
        have hj : a.off - o < c1.length := by omega
        have hcell := hc1 (a.off - o) c1[a.off - o] (List.getElem?_eq_getElem hj)
        rw [add_mk, show o + (a.off - o) = a.off by omega] at hcell
        have hspot : a.spot = none := by
          cases hsp' : a.spot with
          | none => rfl
          | some _ => simp [World.cell?, hsp'] at hva; split at hva <;> simp at hva
        have hae : a = ⟨b, a.off, none⟩ := by cases a; simp_all
        rw [hae, hcell] at hva
        cases hva
        exact rep_notAddr _ _ _ _ _ (by rw [← hut]; exact hli) hr1 _ (List.getElem_mem hj)
      refine ⟨getP_setP_ok p t m x u n hset hli p2 u2 hg2, fun ad hw2 => ⟨walkV_ip htn.toSame hip _ _ _ _ hw2, fun _ hsg v2 hv2 => ?_⟩⟩
      refine htn.toSame.cellSome hv2 (fun hx => ?_)
      obtain ⟨c2, fu, hc2, hr2, _, _, _⟩ := readV p2 t m x _ _ u2 ad hroot.1 hg2 hw2
      have hl1 : c2.length = 1 := by
        rw [rep_len _ _ _ _ _ hr2]
        cases hut2 : u2.t <;> rw [hut2] at hsg <;> simp [Ty.single, Ty.sz] at hsg ⊢
      have h0 := hc2 0 c2[0] (List.getElem?_eq_getElem (by omega))
      have hz : ad.add 0 = ad := by simp [Addr.add]
      rw [hz, hv2] at h0
      cases h0
      have := hip _ _ hv2 hx
      rw [rep_single _ _ _ _ _ hsg hr2 _ (List.getElem_mem (by omega))] at this
      cases this)
  exact ⟨_, _, h, R1, Env.length_put _ _, hcn⟩

end
end Go.VL

namespace Go.VL
section
variable {P : Program} {C : Ctx} {B : Base} {G : Nat → Prop} {F : Nat → List Res} {H : List (TV × Value)} {env : Env} {ts : List Value} {w : World}
variable {ρ : Type} {c : List GI} {K : Unit → Env → Option ρ} {r : ρ} {ty : TypeId} {pos : String} {after : Array Edge} {gd : Option (Nat × Bool)}

theorem shsV_run {b : Bool} {u : TV} {v : Value} {d : Option Nat} {K : TV → Env → Option ρ} (hg : gOf c = true) (R : RelX B G F (H ++ [(u, v)]) env ts w)
    (h : (shsV b u).run c d env K = some r) : ∃ u2 G' F', u2.t = u.t ∧ (∀ b, G b → G' b) ∧ RelX B G' F' (H ++ [(u2, v)]) env ts w ∧ K u2 env = some r := by
  cases b with
  | false => exact ⟨u, G, F, rfl, fun _ h => h, R, h⟩
  | true =>
    simp only [shsV, coe, Rd.run_bind'] at h
    obtain ⟨hco, h⟩ := Rd.run_check hg h
    obtain ⟨G2, F2, hG2, R2⟩ := R.coe hco
    exact ⟨⟨u.t, .s, u.x⟩, G2, F2, rfl, hG2, R2, h⟩

theorem op_assign {x : Operand} {d : Nat} (R : RelX B G F [] env ts w) (hc : Cur env c) (hg : gOf c = true) (hl : ∀ l ∈ B.lents, l.1 ≠ d)
    (h : (opSem C c ⟨some d, .assign x, ty, pos, after, gd⟩).run c (some d) env K = some r) : OpOut P B env ts w ⟨some d, .assign x, ty, pos, after, gd⟩ K r := by
  have hex : (execOp (evalO ts) ⟨some d, .assign x, ty, pos, after, gd⟩).run P w = .ok (.value (evalO ts x)) w := rfl
  simp only [opSem, Rd.run_bind'] at h
  obtain ⟨sl, h, ho⟩ := opnd_run R hc hg h
  have tk : ∀ (_ : (take x sl.e).run c (some d) env (fun v env' => (shsV (shsO C x) v).run c (some d) env' fun v env' => (Rd.set d .all (.val v.t v.m v.x)).run c (some d) env' K) = some r), OpOut P B env ts w ⟨some d, .assign x, ty, pos, after, gd⟩ K r := by
    intro h
    obtain ⟨u, GF1, F1, env1, h, hGF1, R1, hlen, hce⟩ := take_run hg R ho h
    obtain ⟨u2, G2, F2', _, _, R1', h⟩ := shsV_run (H := []) hg R1 h
    obtain ⟨F2, env2, h1, R2, h3⟩ := set_val R1' (hc.moved hce) hg hl h
    exact ⟨_, _, _, _, _, .inl hex, h1, R2, h3.trans hlen⟩
  cases he : sl.e with
  | addr q ep p =>
    simp only [he] at h
    rcases ho.2 with hu | ho2
    · rw [hu] at he; cases he
    have hrel : slotRel G w env ts (.addr q ep p) (evalO ts x) [] := by
      cases hs : slotOf x with
      | some s => rw [hs] at ho2; have := ho2.2.2.2.2; rw [he] at this; exact ⟨rfl, this.2⟩
      | none => rw [hs] at ho2; obtain ⟨t', m', x', he', _⟩ := ho2; rw [he] at he'; cases he'
    obtain ⟨F', env', h1, h2, h3⟩ := set_ref R hc hg hl hrel (fun _ _ => by simp) h
    exact ⟨_, _, _, _, _, .inl hex, h1, h2, h3⟩
  | ref t0 x0 =>
    simp only [he] at h
    obtain ⟨F', env', h1, h2, h3⟩ := set_ref R hc hg hl (ho.ref he) (fun _ _ => by simp) h
    exact ⟨_, _, _, _, _, .inl hex, h1, h2, h3⟩
  | cap e0 q0 ep0 =>
    simp only [he] at h
    obtain ⟨_, hrel⟩ := ho.ent he (by simp) (by simp)
    have h2 : slotRel G w env ts (.cap e0 q0 ep0) (evalO ts x) [] := ⟨rfl, hrel.2⟩
    obtain ⟨F', env', h1, h2, h3⟩ := set_ref R hc hg hl h2 (fun _ _ => by simp) h
    exact ⟨_, _, _, _, _, .inl hex, h1, h2, h3⟩
  | undef => simp only [he, Rd.run_bind'] at h; exact tk (by rw [he]; exact h)
  | nq _ _ => simp only [he, Rd.run_bind'] at h; exact tk (by rw [he]; exact h)
  | val _ _ _ => simp only [he, Rd.run_bind'] at h; exact tk (by rw [he]; exact h)
  | pref _ _ _ _ => simp only [he, Rd.run_bind'] at h; exact tk (by rw [he]; exact h)
  | tup _ => simp only [he, Rd.run_bind'] at h; exact tk (by rw [he]; exact h)
  | win _ _ _ _ => simp only [he, Rd.run_bind'] at h; exact tk (by rw [he]; exact h)
  | g _ _ => simp only [he, Rd.run_bind'] at h; exact tk (by rw [he]; exact h)

theorem opnd_weak {cc c' : List GI} {d : Option Nat} {ty : Option Ty} {o : Operand} {K : Sl → Env → Option ρ} (h : (opnd c' ty o).run cc d env K = some r) : ∃ sl, K sl env = some r := by
  cases o with
  | tmp s =>
    simp only [opnd, Rd.run_bind', Rd.run_slot, useE] at h
    split at h
    · rw [Rd.run_bind'] at h
      obtain ⟨_, h⟩ := Rd.run_guard h
      exact ⟨_, h⟩
    · exact ⟨_, h⟩
  | const v =>
    simp only [opnd] at h
    obtain ⟨sl, hsl, h⟩ := Rd.run_opt h
    exact ⟨sl, h⟩
  | func f => exact ⟨_, h⟩
  | global g => simp [opnd] at h

theorem plainV_weak {cc : List GI} {d : Option Nat} {e : Entry} {K : TV → Env → Option ρ} (h : (plainV e).run cc d env K = some r) : ∃ v, K v env = some r := by
  have key : ∀ {e : Entry} {K : TV → Env → Option ρ}, (peek0 e).run cc d env K = some r → ∃ v, K v env = some r := by
    intro e K h
    cases e with
    | val t m x => simp only [peek0, Rd.run_ret] at h; exact ⟨_, h⟩
    | pref q ep wc p =>
      simp only [peek0, Rd.run_bind'] at h
      obtain ⟨t, m, x, _, _, h⟩ := root_run h
      obtain ⟨u, _, h⟩ := Rd.run_opt h
      obtain ⟨_, h⟩ := Rd.run_guard h
      exact ⟨_, h⟩
    | _ => simp [peek0] at h
  simp only [plainV, Rd.run_bind'] at h
  have fin : ∀ {v : TV}, ((Rd.guard v.m.plain).run cc d env fun _ env' => (pure v : Rd TV).run cc d env' K) = some r → ∃ v, K v env = some r := fun h => by
    obtain ⟨_, h⟩ := Rd.run_guard h
    exact ⟨_, h⟩
  unfold peek at h
  split at h
  · rw [Rd.run_bind'] at h
    obtain ⟨v, h⟩ := key h
    obtain ⟨a, m, xs, _, _, _, h⟩ := winTV_run h
    exact fin h
  · obtain ⟨v, h⟩ := key h
    exact fin h

theorem op_pick {cc a b : Operand} {d : Nat} (R : RelX B G F [] env ts w) (hc : Cur env c) (hg : gOf c = true) (hl : ∀ l ∈ B.lents, l.1 ≠ d)
    (h : (opSem C c ⟨some d, .pick cc a b, ty, pos, after, gd⟩).run c (some d) env K = some r) : OpOut P B env ts w ⟨some d, .pick cc a b, ty, pos, after, gd⟩ K r := by
  simp only [opSem, Rd.run_bind'] at h
  obtain ⟨sc, h, hoc⟩ := opnd_run R hc hg h
  split at h
  case h_2 => simp at h
  rename_i m x hsc
  rw [Rd.run_bind'] at h
  obtain ⟨hm, h⟩ := Rd.run_guard h
  have hm := plain_md hm
  subst hm
  simp only [Rd.run_bind'] at h
  -- the condition's value
  have hcv : evalO ts cc = .bool x := by
    rcases hoc.2 with hu | ho2
    · rw [hu] at hsc; cases hsc
    cases hs : slotOf cc with
    | some s =>
      rw [hs] at ho2
      have := ho2.2.2.2.2
      rw [hsc] at this
      have h1 := this.1.1
      simp only [unpack, Ty.agg, if_false, Bool.false_eq_true, List.cons.injEq, and_true] at h1
      exact h1
    | none =>
      rw [hs] at ho2
      obtain ⟨t', m', x', he', hrel⟩ := ho2
      rw [hsc] at he'
      cases he'
      have h1 := hrel.1.1
      simp only [unpack, Ty.agg, if_false, Bool.false_eq_true, List.cons.injEq, and_true] at h1
      exact h1
  have hex : (execOp (evalO ts) ⟨some d, .pick cc a b, ty, pos, after, gd⟩).run P w = .ok (.value (if x then evalO ts a else evalO ts b)) w := by
    simp only [execOp, hcv, asBool]
    rfl
  -- the chain under which the arm is taken
  have chain : ∀ (wt : Bool), x = wt → Cur env (match slotOf cc with | some s => ⟨s, sc.ep, wt, x⟩ :: c | none => c) ∧ gOf (match slotOf cc with | some s => ⟨s, sc.ep, wt, x⟩ :: c | none => c) = true := by
    intro wt hx
    cases hs : slotOf cc with
    | none => exact ⟨hc, hg⟩
    | some s =>
      rcases hoc.2 with hu | ho2
      · rw [hu] at hsc; cases hsc
      rw [hs] at ho2
      obtain ⟨_, hep, _, hent, _⟩ := ho2
      rw [hsc] at hent
      constructor
      · intro z hz
        rcases List.mem_cons.1 hz with rfl | hz
        · refine ⟨hep.symm, ?_⟩
          rcases hent with hent | ⟨g, hent, _⟩ <;> rw [hent] <;> rfl
        · exact hc z hz
      · rw [gOf_iff] at hg ⊢
        intro z hz
        rcases List.mem_cons.1 hz with rfl | hz
        · subst hx; cases x <;> rfl
        · exact hg z hz
  have fin : ∀ {t : Ty} {y : t.den}, vrel G w t .s y (if x then evalO ts a else evalO ts b) [] → (Rd.set d .all (.val t .s y)).run c (some d) env K = some r →
      OpOut P B env ts w ⟨some d, .pick cc a b, ty, pos, after, gd⟩ K r := by
    intro t y hv h
    obtain ⟨F', env', h1, h2, h3⟩ := set_plain R hc hg hl hv h
    exact ⟨_, _, _, _, _, .inl hex, h1, h2, h3⟩
  cases x with
  | true =>
    obtain ⟨hc1, hg1⟩ := chain true rfl
    obtain ⟨sa, h, hoa⟩ := opnd_run R hc1 hg1 h
    obtain ⟨sb, h⟩ := opnd_weak h
    obtain ⟨t, y, h, hva⟩ := plainV_run R hoa h
    obtain ⟨vb, h⟩ := plainV_weak h
    obtain ⟨z, _, h⟩ := Rd.run_opt h
    exact fin hva h
  | false =>
    obtain ⟨hc1, hg1⟩ := chain false rfl
    obtain ⟨sa, h⟩ := opnd_weak h
    obtain ⟨sb, h, hob⟩ := opnd_run R hc1 hg1 h
    obtain ⟨va, h⟩ := plainV_weak h
    obtain ⟨t, y, h, hvb⟩ := plainV_run R hob h
    obtain ⟨z, hz, h⟩ := Rd.run_opt h
    obtain ⟨e, rfl⟩ := castV_eq hz
    obtain ⟨ta, ma, xa⟩ := va
    simp only at e
    subst e
    exact fin hvb h

/-- a held value goes into a new block -/
theorem RelX.allocPtr {u : TV} {v : Value} (R : RelX B G F (H ++ [(u, v)]) env ts w) (T : TypeId) :
    ∃ F', RelX B G F' (H ++ [(⟨.ptr u.t, .o u.m, some u.x⟩, .pointer (some ⟨w.heap.size, 0, none⟩))]) env ts (w.alloc (.cells v.cells T)) := by
  have hv : vrel G w u.t u.m u.x v (F (env.length + H.length)) := R.held H.length (u, v) (by simp)
  have hl := rep_len _ _ _ _ _ hv.1
  have hcells : v.cells.toList = unpack u.t v := by
    have := pack_cells hl (rep_one _ _ _ _ _ hv.1)
    rw [hv.2] at this
    exact this
  have ht := alloc_turn w (.cells v.cells T)
  have R1 := R.dropHeld.world ht (fun _ _ h => h.elim) (fun _ _ h => h.elim) (fun _ _ _ h => h.elim)
  have hv' : vrel G (w.alloc (.cells v.cells T)) u.t u.m u.x v (F (env.length + H.length)) := vrel_frame ht.toSame (fun _ h => h) (fun _ _ h => h.elim) (fun _ _ _ h => h) hv
  have hsz : v.cells.size = u.t.sz := by rw [← hl, ← hcells]; simp
  have hfl : ∀ r ∈ F (env.length + H.length), r.blk < w.heap.size := fun r hr => (R.ok _ r hr).2.1
  refine ⟨_, R1.hold (v := ⟨.ptr u.t, .o u.m, some u.x⟩) (f := ⟨w.heap.size, 0, 0 + u.t.sz⟩ :: F (env.length + H.length)) ?_ ?_ (fun j => ?_) (fun r hr => ?_)⟩
  · refine ⟨⟨u.x, w.heap.size, 0, unpack u.t v, F (env.length + H.length), rfl, rfl, rfl, ?_, ?_, hv'.1⟩, rfl⟩
    · exact ⟨v.cells, T, by show (w.heap.push _)[w.heap.size]? = _; simp, by omega⟩
    · intro j x hj
      rw [add_mk, Nat.zero_add, World.cell?_alloc_new]
      rw [← hcells] at hj
      simpa using hj
  · refine List.pairwise_cons.2 ⟨fun r hr => ?_, R.nd _⟩
    have := hfl r hr
    simp only [ne_eq]
    omega
  · intro r hr q hq
    unfold upd at hq
    split at hq
    · simp at hq
    · rename_i hj
      rcases List.mem_cons.1 hr with rfl | hr
      · have := (R.ok j q hq).2.1
        simp only [ne_eq]
        omega
      · exact R.ap _ j (Ne.symm hj) r hr q hq
  · rcases List.mem_cons.1 hr with rfl | hr
    · refine ⟨fun hb => ?_, by simp, .inl R.turn.size⟩
      have := (R.gl _ hb).1
      simp at this
    · exact ⟨(R.ok _ r hr).1, Nat.lt_of_lt_of_le (R.ok _ r hr).2.1 ht.size, (R.ok _ r hr).2.2⟩

theorem op_alloc {T : TypeId} {d : Nat} (hT : TysOk P C) (R : RelX B G F [] env ts w) (hc : Cur env c) (hg : gOf c = true) (hl : ∀ l ∈ B.lents, l.1 ≠ d)
    (h : (opSem C c ⟨some d, .alloc T, ty, pos, after, gd⟩).run c (some d) env K = some r) : OpOut P B env ts w ⟨some d, .alloc T, ty, pos, after, gd⟩ K r := by
  simp only [opSem, Rd.run_bind'] at h
  obtain ⟨t, ht, h⟩ := Rd.run_opt h
  obtain ⟨zs, hz, hzz⟩ := (tyF (hT _ _ ht)).zero
  have hrep : vrel G w t (zmd t) t.zero (pack t zs) [] := vrel_pack (isZ_rep t zs hzz)
  obtain ⟨F1, R1⟩ := (R.holdPlain (v := ⟨t, zmd t, t.zero⟩) hrep).allocPtr (H := []) T
  obtain ⟨F', env', h1, h2, h3⟩ := set_val (u := ⟨.ptr t, .o (zmd t), some t.zero⟩) R1 hc hg hl h
  refine ⟨_, _, _, _, _, .inl ?_, h1, h2, h3⟩
  simp only [execOp, Instr.alloc, Sem.run_bind, hz, Result.andThen_ok, newVar, newRow, run_newObj, World.alloc_eq, Sem.run_pure]

theorem op_box {T : TypeId} {x : Operand} {d : Nat} (R : RelX B G F [] env ts w) (hc : Cur env c) (hg : gOf c = true) (hl : ∀ l ∈ B.lents, l.1 ≠ d)
    (h : (opSem C c ⟨some d, .box T x, ty, pos, after, gd⟩).run c (some d) env K = some r) : OpOut P B env ts w ⟨some d, .box T x, ty, pos, after, gd⟩ K r := by
  simp only [opSem, Rd.run_bind'] at h
  obtain ⟨t, ht, h⟩ := Rd.run_opt h
  obtain ⟨sl, h, ho⟩ := opnd_run R hc hg h
  obtain ⟨u, GF1, F1, env1, h, hGF1, R1, hlen, hce⟩ := take_run hg R ho h
  obtain ⟨y, hy, h⟩ := Rd.run_opt h
  obtain ⟨ut, um, ux⟩ := u
  obtain ⟨e, rfl⟩ := castV_eq hy
  simp only at e
  subst e
  obtain ⟨F2, R2⟩ := RelX.allocPtr (H := []) R1 T
  obtain ⟨F', env', h1, h2, h3⟩ := set_val R2 (hc.moved hce) hg hl h
  refine ⟨_, _, _, _, _, .inl ?_, h1, h2, h3.trans hlen⟩
  simp only [execOp, Instr.box, Sem.run_bind, newVar, newRow, run_newObj, World.alloc_eq, Sem.run_pure, Result.andThen_ok]

/-- a place is read -/
theorem place_rel {q ep : Nat} {p : List Step} {vp : Value} {t : Ty} {m : Md} {x : t.den} {u : TV} (R : RelX B G F H env ts w) (hrel : slotRel G w env ts (.addr q ep p) vp [])
    (h1 : (env.get q).e = .val t m x) (h2 : fresh (env.get q) ep p.dropLast = true) (hu : getP p t m x = some u) :
    ∃ ad c1 f, vp = .pointer (some ad) ∧ walkV w p t (unpack t (ts.getD q undef)) = some ad ∧ cellsAt w ad c1 ∧ rep G w u.t u.m u.x c1 f := by
  obtain ⟨_, _, hrel⟩ := hrel
  obtain ⟨t', m', x', u', ad, hr', hu', hw, hvp⟩ := hrel h2
  rw [h1] at hr'
  cases hr'
  rw [hu] at hu'
  cases hu'
  obtain ⟨_, hroot⟩ := R.rootVal h1
  obtain ⟨c1, f, hc1, hr1, _⟩ := readV p t m x _ _ u ad hroot.1 hu hw
  exact ⟨ad, c1, f, hvp, hw, hc1, hr1⟩

theorem op_load {T : TypeId} {x : Operand} {d : Nat} (hT : TysOk P C) (R : RelX B G F [] env ts w) (hc : Cur env c) (hg : gOf c = true) (hl : ∀ l ∈ B.lents, l.1 ≠ d)
    (h : (opSem C c ⟨some d, .load T x, ty, pos, after, gd⟩).run c (some d) env K = some r) : OpOut P B env ts w ⟨some d, .load T x, ty, pos, after, gd⟩ K r := by
  simp only [opSem, Rd.run_bind'] at h
  obtain ⟨t, ht, h⟩ := Rd.run_opt h
  obtain ⟨sl, h, ho⟩ := opnd_run R hc hg h
  split at h
  · rename_i t0 x0 he
    obtain ⟨_, ad, cs, hv, hG, hcc, hrep⟩ := ho.ref he
    rw [Rd.run_bind'] at h
    obtain ⟨y, hy, h⟩ := Rd.run_opt h
    obtain ⟨e, rfl⟩ := castV_eq hy
    subst e
    obtain ⟨F', env', g1, g2, g3⟩ := set_plain R hc hg hl (vrel_pack hrep) h
    refine ⟨_, _, _, _, _, .inl ?_, g1, g2, g3⟩
    simp only [execOp, hv, Instr.loadAt, Instr.sureAddr, Sem.run_bind, Sem.run_pure, Result.andThen_ok]
    rw [run_loadVar (tyF (hT _ _ ht)) (rep_len _ _ _ _ _ hrep) hcc]
    rfl
  rw [Rd.run_bind'] at h
  obtain ⟨q, ep, p, h, hrel⟩ := asPlace_run hg R ho h
  rw [Rd.run_bind'] at h
  obtain ⟨t0, m0, x0, h1, h2, h⟩ := root_run h
  rw [Rd.run_bind'] at h
  obtain ⟨u, hu, h⟩ := Rd.run_opt h
  rw [Rd.run_bind'] at h
  obtain ⟨_, h⟩ := Rd.run_guard h
  obtain ⟨ad, c1, f, hvp, hw, hc1, hr1⟩ := place_rel R hrel h1 h2 hu
  have hex : u.t = t → (execOp (evalO ts) ⟨some d, .load T x, ty, pos, after, gd⟩).run P w = .ok (.value (pack t c1)) w := fun e => by
    simp only [execOp, hvp, Instr.loadAt, Instr.sureAddr, Sem.run_bind, Sem.run_pure, Result.andThen_ok]
    rw [run_loadVar (tyF (hT _ _ ht)) (by rw [rep_len _ _ _ _ _ hr1, e]) hc1]
    rfl
  obtain ⟨ut, um, ux⟩ := u
  split at h
  · rename_i hp
    have hm := plain_md hp
    simp only at hm
    subst hm
    rw [Rd.run_bind'] at h
    obtain ⟨y, hy, h⟩ := Rd.run_opt h
    obtain ⟨e, rfl⟩ := castV_eq hy
    simp only at e
    subst e
    have hf := rep_s_fp _ _ _ _ hr1
    subst hf
    obtain ⟨F', env', g1, g2, g3⟩ := set_plain R hc hg hl (vrel_pack hr1) h
    exact ⟨_, _, _, _, _, .inl (hex rfl), g1, g2, g3⟩
  · rw [Rd.run_bind'] at h
    obtain ⟨e, hk⟩ := Rd.run_guard h
    simp only [decide_eq_true_eq] at e
    subst e
    rw [Rd.run_bind'] at hk
    simp only [Rd.run_slot] at hk
    obtain ⟨F', env', g1, g2, g3⟩ := set_ref (e := .pref q (env.get q).ep (env.get q).wc p) (v := pack ut c1) R hc hg hl
      ⟨rfl, Nat.le_refl _, Nat.le_refl _, fun _ => ⟨t0, m0, x0, _, h1, hu, fun _ => ⟨c1, rfl, rep_len _ _ _ _ _ hr1, .inr ⟨ad, hw, hc1⟩⟩⟩⟩ (fun _ _ => by simp) hk
    exact ⟨_, _, _, _, _, .inl (hex rfl), g1, g2, g3⟩

theorem Cur.nil {env : Env} : Cur env [] := fun b hb => by simp at hb

theorem coeIdx_run {q ep : Nat} {p : List Step} {u : TV} {v : Value} {d : Option Nat} {K : TV → Env → Option ρ} (hg : gOf c = true) (R : RelX B G F (H ++ [(u, v)]) env ts w)
    (h : (coeIdx q ep p u).run c d env K = some r) : ∃ u2 G' F', u2.t = u.t ∧ (∀ b, G b → G' b) ∧ RelX B G' F' (H ++ [(u2, v)]) env ts w ∧ K u2 env = some r := by
  unfold coeIdx at h
  split at h
  · rw [Rd.run_bind'] at h
    obtain ⟨t, m, x, w', _, _, _, h⟩ := placeA_run h
    simp only [coe, Rd.run_bind'] at h
    obtain ⟨hco, h⟩ := Rd.run_check hg h
    obtain ⟨G', F', hG, R'⟩ := R.coe hco
    exact ⟨⟨u.t, w'.m, u.x⟩, G', F', rfl, hG, R', h⟩
  · exact ⟨u, G, F, rfl, fun _ h => h, R, h⟩

theorem op_store {T : TypeId} {x y : Operand} (hT : TysOk P C) (R : RelX B G F [] env ts w) (hc : Cur env c) (hg : gOf c = true)
    (h : (opSem C c ⟨none, .store T x y, ty, pos, after, gd⟩).run c none env K = some r) : OpOut P B env ts w ⟨none, .store T x y, ty, pos, after, gd⟩ K r := by
  simp only [opSem, Rd.run_bind'] at h
  obtain ⟨t, ht, h⟩ := Rd.run_opt h
  obtain ⟨sy, h, hoy⟩ := opnd_run R hc hg h
  obtain ⟨u, GF1, F1, env1, h, hGF1, R1, hlen, hce⟩ := take_run hg R hoy h
  have hc1 := hc.moved hce
  obtain ⟨u', G1', F1', _, hG1', R1, h⟩ := shsV_run (H := []) hg R1 h
  obtain ⟨sx, h, hox⟩ := opnd_run R1 hc1 hg h
  obtain ⟨q, ep, p, h, hrel⟩ := asPlace_run hg R1 hox h
  obtain ⟨e, hk⟩ := Rd.run_guard h
  simp only [decide_eq_true_eq] at e
  subst e
  obtain ⟨u2, G2, F2, hut, hG2, R2, hk⟩ := coeIdx_run hg (H := []) R1 hk
  obtain ⟨b, o, hvp, w', hst, F', env', g1, g2, g3, hcn⟩ := putPlace_run (H := []) hg R2 (slotRel_G hG2 _ _ _ hrel) (by rw [hut]; exact tyF (hT _ _ ht)) hk
  refine ⟨undef, w', _, F', env', .inr ⟨?_, rfl⟩, g1, g2, g3.trans hlen⟩
  simp only [execOp, hvp, Instr.storeAt, Instr.sureAddr, Sem.run_bind, Sem.run_pure, Result.andThen_ok, hst]

theorem op_nilCheck {x : Operand} {d : Nat} (R : RelX B G F [] env ts w) (hc : Cur env c) (hg : gOf c = true) (hl : ∀ l ∈ B.lents, l.1 ≠ d)
    (h : (opSem C c ⟨some d, .nilCheck x, ty, pos, after, gd⟩).run c (some d) env K = some r) : OpOut P B env ts w ⟨some d, .nilCheck x, ty, pos, after, gd⟩ K r := by
  simp only [opSem, Rd.run_bind'] at h
  obtain ⟨sl, h, ho⟩ := opnd_run R hc hg h
  split at h
  · rename_i t0 x0 he
    obtain ⟨F', env', g1, g2, g3⟩ := set_ref R hc hg hl (ho.ref he) (fun _ _ => by simp) h
    obtain ⟨_, ad, cs, hv, _⟩ := ho.ref he
    refine ⟨_, _, _, _, _, .inl ?_, g1, g2, g3⟩
    simp only [execOp, hv]
    rfl
  rw [Rd.run_bind'] at h
  obtain ⟨q, ep, p, h, hrel⟩ := asPlace_run hg R ho h
  rw [Rd.run_bind'] at h
  obtain ⟨t0, m0, x0, h1, h2, h⟩ := root_run h
  obtain ⟨F', env', g1, g2, g3⟩ := set_ref R hc hg hl hrel (fun _ _ => by simp) h
  obtain ⟨_, _, _, _, ad, _, _, _, hvp⟩ := hrel.2.2 h2
  refine ⟨_, _, _, _, _, .inl ?_, g1, g2, g3⟩
  simp only [execOp, hvp]
  rfl

theorem fields_at {ty : TypeId → Option Ty} : ∀ (f : Nat) (fs : List Field) (off : Nat) (t : Ty) (m : Md) (x : t.den) (u : TV), fieldsChk ty fs off t = true → getP (stepsOf f) t m x = some u →
    ∃ fl, fs[f]? = some fl ∧ fl.offset = off + offOf f t ∧ ty fl.type = some u.t ∧ u.t.sz ≠ 0 := by
  intro f
  induction f with
  | zero =>
    intro fs off t m x u hf hg
    cases t <;> simp only [stepsOf, getP] at hg <;> try (cases hg; done)
    cases fs with
    | nil => simp [fieldsChk] at hf
    | cons fl fs =>
      simp only [fieldsChk, Bool.and_eq_true, beq_iff_eq, bne_iff_ne] at hf
      simp only [Option.some.injEq] at hg
      subst hg
      obtain ⟨⟨⟨⟨h1, h2⟩, h3⟩, _⟩, _⟩ := hf
      refine ⟨fl, rfl, by simp [offOf, h1], ?_, h3⟩
      split at h2
      · rename_i a' ha; simp only [decide_eq_true_eq] at h2; rw [ha, h2]
      · cases h2
  | succ f ih =>
    intro fs off t m x u hf hg
    cases t <;> simp only [stepsOf, getP] at hg <;> try (cases hg; done)
    rename_i a b
    cases fs with
    | nil => simp [fieldsChk] at hf
    | cons fl fs =>
      simp only [fieldsChk, Bool.and_eq_true, beq_iff_eq, bne_iff_ne] at hf
      obtain ⟨fl', h1, h2, h3⟩ := ih fs (off + a.sz) b _ _ u hf.2 hg
      exact ⟨fl', by simpa using h1, by simp only [offOf]; omega, h3⟩

theorem op_fieldAddr {T : TypeId} {x : Operand} {f d : Nat} (hT : TysOk P C) (R : RelX B G F [] env ts w) (hc : Cur env c) (hg : gOf c = true) (hl : ∀ l ∈ B.lents, l.1 ≠ d)
    (h : (opSem C c ⟨some d, .fieldAddr T x f, ty, pos, after, gd⟩).run c (some d) env K = some r) : OpOut P B env ts w ⟨some d, .fieldAddr T x f, ty, pos, after, gd⟩ K r := by
  simp only [opSem, Rd.run_bind'] at h
  obtain ⟨t, ht, h⟩ := Rd.run_opt h
  obtain ⟨sl, h, ho⟩ := opnd_run R hc hg h
  have hgen : ∀ {ut : Ty} {um : Md} {ux : ut.den} {u2 : TV} {ad : Addr}, ut = t → getP (stepsOf f) ut um ux = some u2 → evalO ts x = .pointer (some ad) →
      (execOp (evalO ts) ⟨some d, .fieldAddr T x f, ty, pos, after, gd⟩).run P w = .ok (.value (.pointer (some (ad.add (offOf f ut))))) w := by
    intro ut um ux u2 ad e hu2 hvp
    subst e
    obtain ⟨dsc, hd1, hd2⟩ := (tyF (hT _ _ ht)).und
    obtain ⟨fs, rfl, hfs⟩ : ∃ fs, dsc = .struct fs ∧ fieldsChk C.ty fs.toList 0 ut = true := by
      cases ut <;> cases f <;> simp only [stepsOf, getP] at hu2 <;> try (cases hu2; done)
      all_goals (cases dsc <;> simp only [descChk] at hd2 <;> first | (cases hd2; done) | exact ⟨_, rfl, hd2⟩)
    obtain ⟨fl, g1, g2, g3, g4⟩ := fields_at f fs.toList 0 ut um ux u2 hfs hu2
    have gf : fs[f]? = some fl := by simpa using g1
    simp only [execOp, hvp, Instr.fieldAt, Sem.run_bind, run_underlying hd1, Result.andThen_ok, gf, Instr.sureAddr, Sem.run_pure, fieldPlace, (tyF (hT _ _ g3)).size, g4, if_false, g2, Nat.zero_add]
  split at h
  · rename_i t0 x0 he
    obtain ⟨_, ad, cs, hv, hG, hcc, hrep⟩ := ho.ref he
    rw [Rd.run_bind'] at h
    obtain ⟨e, h⟩ := Rd.run_guard h
    simp only [decide_eq_true_eq] at e
    rw [Rd.run_bind'] at h
    obtain ⟨u2, hu2, h⟩ := Rd.run_opt h
    rw [Rd.run_bind'] at h
    obtain ⟨hp, h⟩ := Rd.run_guard h
    have hw := walkA_steps (w := w) f t0 .s x0 u2 ad hu2
    obtain ⟨c1, f1, k1, k2, k3, _, _⟩ := readA (stepsOf f) t0 .s x0 ad cs [] u2 _ hcc hrep hu2 hw
    obtain ⟨ut, um, ux⟩ := u2
    have hm := plain_md hp
    simp only at hm
    subst hm
    have hf := rep_s_fp _ _ _ _ k2
    subst hf
    obtain ⟨F', env', g1, g2, g3⟩ := set_ref (e := .ref ut ux) (v := .pointer (some (ad.add (offOf f t0)))) R hc hg hl ⟨rfl, _, c1, rfl, by rw [add_block]; exact hG, k1, k2⟩ (fun _ _ => by simp) h
    exact ⟨_, _, _, _, _, .inl (hgen e hu2 hv), g1, g2, g3⟩
  rw [Rd.run_bind'] at h
  obtain ⟨q, ep, p, h, hrel⟩ := asPlace_run hg R ho h
  rw [Rd.run_bind'] at h
  obtain ⟨t0, m0, x0, u, h1, h2, hu, h⟩ := placeA_run h
  rw [Rd.run_bind'] at h
  obtain ⟨e, h⟩ := Rd.run_guard h
  simp only [decide_eq_true_eq] at e
  rw [Rd.run_bind'] at h
  obtain ⟨u2, hu2, hk⟩ := Rd.run_opt h
  obtain ⟨ad, c1, f1, hvp, hw, hc1, hr1⟩ := place_rel R hrel h1 h2 hu
  obtain ⟨ut, um, ux⟩ := u
  simp only at e hu2 hr1
  subst e
  have hgp : getP (p ++ stepsOf f) t0 m0 x0 = some u2 := by rw [getP_append, hu]; exact hu2
  have hwp : walkV w (p ++ stepsOf f) t0 (unpack t0 (ts.getD q undef)) = some (ad.add (offOf f ut)) := by
    rw [walkV_append p _ t0 m0 x0 _ _ ad hu hw]
    exact walkA_steps f ut um ux u2 ad hu2
  obtain ⟨F', env', k1, k2, k3⟩ := set_ref (e := .addr q ep (p ++ stepsOf f)) (v := .pointer (some (ad.add (offOf f ut)))) R hc hg hl
    ⟨rfl, hrel.2.1, fun _ => ⟨t0, m0, x0, u2, _, h1, hgp, hwp, rfl⟩⟩ (fun _ _ => by simp) hk
  exact ⟨_, _, _, _, _, .inl (hgen rfl hu2 hvp), k1, k2, k3⟩

end
end Go.VL

namespace Go.VL
section
variable {P : Program} {C : Ctx} {B : Base} {G : Nat → Prop} {F : Nat → List Res} {H : List (TV × Value)} {env : Env} {ts : List Value} {w : World}
variable {ρ : Type} {c : List GI} {K : Unit → Env → Option ρ} {r : ρ} {ty : TypeId} {pos : String} {after : Array Edge} {gd : Option (Nat × Bool)}

theorem OpRel.pref {o : Operand} {sl : Sl} {v : Value} {q ep wc : Nat} {p : List Step} (ho : OpRel G F env ts w o sl v) (he : sl.e = .pref q ep wc p) : slotRel G w env ts (.pref q ep wc p) v [] := by
  rcases ho.2 with hu | ho
  · rw [he] at hu; cases hu
  · cases hs : slotOf o with
    | some s =>
      rw [hs] at ho
      have := ho.2.2.2.2
      rw [he] at this
      exact ⟨rfl, this.2⟩
    | none =>
      rw [hs] at ho
      obtain ⟨t', m', x', he', _⟩ := ho
      rw [he] at he'
      cases he'

/-- an alias that is looked at, and where it lies -/
theorem peek_pref {cc : List GI} {d : Option Nat} {v : Value} {q ep wc : Nat} {p : List Step} {K : TV → Env → Option ρ} (R : RelX B G F H env ts w) (hrel : slotRel G w env ts (.pref q ep wc p) v [])
    (h : (peek (.pref q ep wc p)).run cc d env K = some r) : ∃ t m x u cs f, (env.get q).e = .val t m x ∧ fresh (env.get q) ep p = true ∧ getP p t m x = some u ∧ K u env = some r ∧ v = pack u.t cs ∧
      rep G w u.t u.m u.x cs f ∧ ((p = [] ∧ cs = unpack t (ts.getD q undef)) ∨ ∃ ad, walkV w p t (unpack t (ts.getD q undef)) = some ad ∧ cellsAt w ad cs) := by
  simp only [peek, peek0, Rd.run_bind'] at h
  obtain ⟨t, m, x, h1, h2, h⟩ := root_run h
  obtain ⟨u, hu, h⟩ := Rd.run_opt h
  obtain ⟨ha, h⟩ := Rd.run_guard h
  simp only [Rd.run_pure] at h
  obtain ⟨_, _, _, hrel⟩ := hrel
  obtain ⟨t', m', x', u', hr', hu', hc⟩ := hrel h2
  rw [h1] at hr'
  cases hr'
  rw [hu] at hu'
  cases hu'
  obtain ⟨cs, rfl, hl, hp⟩ := hc ha
  obtain ⟨hlt, hroot⟩ := R.rootVal h1
  rcases hp with ⟨rfl, rfl⟩ | ⟨ad, hw, hcc⟩
  · simp only [getP, Option.some.injEq] at hu
    subst hu
    exact ⟨t, m, x, _, _, _, h1, h2, rfl, h, rfl, hroot.1, .inl ⟨rfl, rfl⟩⟩
  · obtain ⟨c1, f, hc1, hr1, hf, _, _⟩ := readV p t m x _ _ u ad hroot.1 hu hw
    have hcc1 : cs = c1 := cellsAt_inj hcc hc1 (by rw [hl, rep_len _ _ _ _ _ hr1])
    subst hcc1
    exact ⟨t, m, x, u, cs, f, h1, h2, hu, h, rfl, hr1, .inr ⟨ad, hw, hcc⟩⟩

/-- a list's value: where its elements lie -/
theorem list_val {a : Ty} {m : Md} {xs : List a.den} {v : Value} {f : List Res} (hm : m ≠ .h) (h : vrel G w (.list a) m xs v f) : ∃ A cap, v = .slice A xs.length cap ∧ (0 < xs.length → ∃ a0, A = some a0) := by
  obtain ⟨h, hv⟩ := h
  simp only [unpack, Ty.agg, if_false, Bool.false_eq_true] at h
  cases m with
  | h => exact absurd rfl hm
  | o m =>
    rcases h with ⟨rfl, h, _⟩ | ⟨b, o, cap, fs, h, _⟩
    · simp only [List.cons.injEq, and_true] at h
      exact ⟨none, 0, h, fun h => absurd h (by simp)⟩
    · simp only [List.cons.injEq, and_true] at h
      exact ⟨_, cap, h, fun _ => ⟨_, rfl⟩⟩
  | s =>
    obtain ⟨⟨A, cap, h, _, hh⟩, _⟩ := h
    simp only [List.cons.injEq, and_true] at h
    refine ⟨A, cap, h, fun h0 => ?_⟩
    obtain ⟨ad, c, ha, _⟩ := hh 0 h0
    exact ⟨ad, ha⟩
  | p _ _ =>
    obtain ⟨⟨A, cap, h, _, hh⟩, _⟩ := h
    simp only [List.cons.injEq, and_true] at h
    refine ⟨A, cap, h, fun h0 => ?_⟩
    obtain ⟨ad, c, ha, _⟩ := hh 0 h0
    exact ⟨ad, ha⟩

theorem int_val {k : IntKind} {x : Int} {v : Value} {m : Md} {f : List Res} (h : vrel G w (.int k) m x v f) : v = .int k x := by
  have := h.1.1
  simp only [unpack, Ty.agg, if_false, Bool.false_eq_true, List.cons.injEq, and_true] at this
  exact this

theorem bool_val {x : Bool} {v : Value} {m : Md} {f : List Res} (h : vrel G w .bool m x v f) : v = .bool x := by
  have := h.1.1
  simp only [unpack, Ty.agg, if_false, Bool.false_eq_true, List.cons.injEq, and_true] at this
  exact this

theorem str_val {x : List Int} {v : Value} {m : Md} {f : List Res} (h : vrel G w .str m x v f) : ∃ s, v = .string s ∧ x = bytesV s := by
  obtain ⟨s, hs, hx⟩ := h.1.1
  simp only [unpack, Ty.agg, if_false, Bool.false_eq_true, List.cons.injEq, and_true] at hs
  exact ⟨s, hs, hx⟩

theorem Md.idx_ne {m : Md} (h : m.idx = true) : m ≠ .h := by intro e; subst e; simp [Md.idx] at h

/-- an element of a shared list -/
theorem list_s_elem {a : Ty} {xs : List a.den} {v : Value} {f : List Res} (h : vrel G w (.list a) .s xs v f) {j : Nat} (hj : j < xs.length) :
    ∃ a0 cap c, v = .slice (some a0) xs.length cap ∧ G a0.block ∧ cellsAt w (a0.add (j * a.sz)) c ∧ rep G w a .s (xs.getD j a.zero) c [] := by
  obtain ⟨h, _⟩ := h
  simp only [unpack, Ty.agg, if_false, Bool.false_eq_true] at h
  obtain ⟨⟨A, cap, h, _, hh⟩, _⟩ := h
  simp only [List.cons.injEq, and_true] at h
  obtain ⟨ad, c, rfl, hG, hc, hr⟩ := hh j hj
  have hx : xs.getD j a.zero = xs[j] := by simp [List.getD, hj]
  exact ⟨ad, cap, c, h, hG, hc, by rw [hx]; exact hr⟩

theorem op_indexAddr {T : TypeId} {x i : Operand} {d : Nat} (hT : TysOk P C) (R : RelX B G F [] env ts w) (hc : Cur env c) (hg : gOf c = true) (hl : ∀ l ∈ B.lents, l.1 ≠ d)
    (h : (opSem C c ⟨some d, .indexAddr T x i, ty, pos, after, gd⟩).run c (some d) env K = some r) : OpOut P B env ts w ⟨some d, .indexAddr T x i, ty, pos, after, gd⟩ K r := by
  simp only [opSem, Rd.run_bind'] at h
  obtain ⟨t, ht, h⟩ := Rd.run_opt h
  obtain ⟨si, h, hoi⟩ := opnd_run R hc hg h
  obtain ⟨tv, xv, h, hvi⟩ := plainV_run R hoi h
  have hTf := tyF (hT _ _ ht)
  split at h
  · -- a slice
    rename_i k mm j a heq _ _
    obtain ⟨rfl, rfl, hj⟩ : tv = .int k ∧ .s = mm ∧ HEq xv j := by simpa using heq
    cases hj
    have hiv := int_val hvi
    rw [Rd.run_bind'] at h
    obtain ⟨sl, h, ho⟩ := opnd_run R hc hg h
    obtain ⟨dsc, hd1, hd2⟩ := hTf.und
    cases dsc <;> simp only [descChk] at hd2 <;> try (cases hd2; done)
    rename_i e
    simp only [Bool.and_eq_true] at hd2
    obtain ⟨hd3, hd4⟩ := hd2
    have hety : C.ty e = some a := by
      split at hd3
      · rename_i a' ha; simp only [decide_eq_true_eq] at hd3; rw [ha, hd3]
      · cases hd3
    have hes := (tyF (hT _ _ hety)).size
    -- the model's step, once the slice is known
    have hex : ∀ (A : Option Addr) (n cap : Nat), evalO ts x = .slice A n cap → 0 ≤ j → j < (n : Int) → ∀ a0, A = some a0 →
        (execOp (evalO ts) ⟨some d, .indexAddr T x i, ty, pos, after, gd⟩).run P w = .ok (.value (.pointer (some (a0.add (j.toNat * a.sz))))) w := by
      rintro A n cap hx h0 hn a0 rfl
      simp only [execOp, hx, hiv, Instr.indexAt, asIntOf, Sem.run_bind, Sem.run_pure, Result.andThen_ok, run_underlying hd1]
      simp [h0, hn, hes]
    have sh : ∀ {b : Ty} {xs : List b.den} {fv : List Res}, a = b → vrel G w (.list b) .s xs (evalO ts x) fv → 0 ≤ j → j < (xs.length : Int) →
        (Rd.set d .all (.ref b (xs.getD j.toNat b.zero))).run c (some d) env K = some r → OpOut P B env ts w ⟨some d, .indexAddr T x i, ty, pos, after, gd⟩ K r := by
      intro b xs fv hab hvr h0 hn hk
      obtain ⟨a0, cap, cs, hA, hG, hcc, hrep⟩ := list_s_elem hvr (j := j.toNat) (by omega)
      obtain ⟨F', env', k1, k2, k3⟩ := set_ref (e := .ref b (xs.getD j.toNat b.zero)) (v := .pointer (some (a0.add (j.toNat * b.sz)))) R hc hg hl ⟨rfl, _, cs, rfl, by rw [add_block]; exact hG, hcc, hrep⟩ (fun _ _ => by simp) hk
      subst hab
      exact ⟨_, _, _, _, _, .inl (hex _ _ cap hA h0 hn a0 rfl), k1, k2, k3⟩
    rw [Rd.run_bind'] at h
    obtain ⟨e0, he⟩ : ∃ e0, sl.e = e0 := ⟨_, rfl⟩
    cases e0 with
    | val t1 m1 x1 =>
      rw [he] at h
      simp only [peek, peek0, Rd.run_ret] at h
      split at h
      case h_2 => simp at h
      rename_i b m xs heq2
      obtain ⟨rfl, rfl, hxs⟩ : t1 = .list b ∧ m1 = m ∧ HEq x1 xs := by simpa using heq2
      cases hxs
      rw [Rd.run_bind'] at h
      obtain ⟨hgd, h⟩ := Rd.run_guard h
      simp only [Bool.and_eq_true, decide_eq_true_eq] at hgd
      obtain ⟨hab, hm⟩ := hgd
      rw [Rd.run_bind'] at h
      obtain ⟨hck, hk⟩ := Rd.run_check hg h
      simp only [Bool.and_eq_true, decide_eq_true_eq] at hck
      obtain ⟨h0, hn⟩ := hck
      split at hk
      · rename_i hpl
        have hmm := plain_md hpl
        subst hmm
        obtain ⟨fv, hvr⟩ : ∃ fv, vrel G w (.list b) .s xs (evalO ts x) fv := by
          rcases ho.2 with hu | ho2
          · rw [hu] at he; cases he
          cases hs : slotOf x with
          | some s => rw [hs] at ho2; have := ho2.2.2.2.2; rw [he] at this; exact ⟨_, this⟩
          | none =>
            rw [hs] at ho2
            obtain ⟨t', m', x', he', hrel⟩ := ho2
            rw [he] at he'
            cases he'
            exact ⟨_, hrel⟩
        exact sh hab hvr h0 hn hk
      cases hs : slotOf x with
      | none => simp [hs] at hk
      | some s =>
        simp only [hs, Rd.run_bind'] at hk
        obtain ⟨t2, m2, x2, h1, h2, hk⟩ := root_run hk
        rcases ho.2 with hu | ho2
        · rw [hu] at he; cases he
        rw [hs] at ho2
        obtain ⟨hlt, hep, _, hent, hrel⟩ := ho2
        have hent : (env.get s).e = .val (.list b) m1 xs := by
          rcases hent with hent | ⟨g, hent, _⟩
          · rw [hent, he]
          · rw [h1] at hent; cases hent
        rw [he] at hrel
        have hrel : vrel G w (.list b) m1 xs (evalO ts x) (F s) := hrel
        have hval : evalO ts x = ts.getD s undef := by cases x <;> simp only [slotOf] at hs <;> cases hs; rfl
        obtain ⟨A, cap, hA, hA0⟩ := list_val (Md.idx_ne hm) hrel
        obtain ⟨a0, ha0⟩ := hA0 (by omega)
        have hjn : j.toNat < xs.length := by omega
        obtain ⟨u, hu⟩ : ∃ u, getP [.idx j] (.list b) m1 xs = some u := by cases m1 <;> simp [Md.idx] at hm <;> simp [getP]
        obtain ⟨F', env', k1, k2, k3⟩ := set_ref (e := .addr s sl.ep [.idx j]) (v := .pointer (some (a0.add (j.toNat * b.sz)))) R hc hg hl
          ⟨rfl, by rw [hep]; exact Nat.le_refl _, fun _ => ⟨.list b, m1, xs, u, _, hent, hu, by
            rw [← hval, hA, ha0]
            simp [unpack, Ty.agg, walkV, hjn, walkA], rfl⟩⟩ (fun _ _ => by simp) hk
        subst hab
        exact ⟨_, _, _, _, _, .inl (hex A _ cap hA h0 hn a0 ha0), k1, k2, k3⟩
    | pref q ep wc p =>
      have hrel := ho.pref he
      rw [he] at h
      obtain ⟨t1, m1, x1, u, cs, f, h1, h2, hu, h, hv, hr1, hp⟩ := peek_pref R hrel h
      split at h
      case h_2 => simp at h
      rename_i b m xs
      rw [Rd.run_bind'] at h
      obtain ⟨hgd, h⟩ := Rd.run_guard h
      simp only [Bool.and_eq_true, decide_eq_true_eq] at hgd
      obtain ⟨hab, hm⟩ := hgd
      rw [Rd.run_bind'] at h
      obtain ⟨hck, hk⟩ := Rd.run_check hg h
      simp only [Bool.and_eq_true, decide_eq_true_eq] at hck
      obtain ⟨h0, hn⟩ := hck
      simp only at hr1 hv
      have hvr : vrel G w (.list b) m xs (evalO ts x) f := by rw [hv]; exact vrel_pack hr1
      split at hk
      · rename_i hpl
        have hmm := plain_md hpl
        subst hmm
        exact sh hab hvr h0 hn hk
      simp only at hk
      obtain ⟨A, cap, hA, hA0⟩ := list_val (Md.idx_ne hm) hvr
      obtain ⟨a0, ha0⟩ := hA0 (by omega)
      have hjn : j.toNat < xs.length := by omega
      obtain ⟨u2, hu2⟩ : ∃ u, getP [.idx j] (.list b) m xs = some u := by cases m <;> simp [Md.idx] at hm <;> simp [getP]
      have hcs : cs = [.slice (some a0) xs.length cap] := by
        have := hvr.2
        have e := unpack_pack hr1
        rw [← hv, hA, ha0] at e
        simpa [unpack, Ty.agg] using e.symm
      have hgp : getP (p ++ [.idx j]) t1 m1 x1 = some u2 := by rw [getP_append, hu]; exact hu2
      have hwp : walkV w (p ++ [.idx j]) t1 (unpack t1 (ts.getD q undef)) = some (a0.add (j.toNat * b.sz)) := by
        rcases hp with ⟨rfl, hcs2⟩ | ⟨ad, hw, hcc⟩
        · simp only [getP, Option.some.injEq, TV.mk.injEq] at hu
          obtain ⟨rfl, rfl, hxx⟩ := hu
          rw [← hcs2, hcs]
          simp [walkV, hjn, walkA]
        · rw [walkV_append p _ t1 m1 x1 _ _ ad hu hw]
          have hcell : w.cell? ad = some (.slice (some a0) xs.length cap) := by
            have := hcc 0 _ (by rw [hcs]; rfl)
            simpa [Addr.add] using this
          simp [walkA, hcell, hjn]
      obtain ⟨F', env', k1, k2, k3⟩ := set_ref (e := .addr q ep (p ++ [.idx j])) (v := .pointer (some (a0.add (j.toNat * b.sz)))) R hc hg hl
        ⟨rfl, hrel.2.1, fun _ => ⟨t1, m1, x1, u2, _, h1, hgp, hwp, rfl⟩⟩ (fun _ _ => by simp) hk
      subst hab
      exact ⟨_, _, _, _, _, .inl (hex A _ cap hA h0 hn a0 ha0), k1, k2, k3⟩
    | win e1 sz1 l1 h1 =>
      obtain ⟨u, f, h, hvr, _⟩ := peek_run R ho h
      split at h
      case h_2 => simp at h
      rename_i b m xs
      rw [Rd.run_bind'] at h
      obtain ⟨hgd, h⟩ := Rd.run_guard h
      simp only [Bool.and_eq_true, decide_eq_true_eq] at hgd
      obtain ⟨hab, hm⟩ := hgd
      rw [Rd.run_bind'] at h
      obtain ⟨hck, hk⟩ := Rd.run_check hg h
      simp only [Bool.and_eq_true, decide_eq_true_eq] at hck
      obtain ⟨h0, hn⟩ := hck
      split at hk
      · rename_i hpl
        have hmm := plain_md hpl
        subst hmm
        exact sh hab hvr h0 hn hk
      · rw [he] at hk; simp at hk
    | _ => rw [he] at h; simp [peek, peek0] at h
  · -- an array
    rename_i k mm j n a heq _ _
    obtain ⟨rfl, rfl, hj⟩ : tv = .int k ∧ .s = mm ∧ HEq xv j := by simpa using heq
    cases hj
    have hiv := int_val hvi
    rw [Rd.run_bind'] at h
    obtain ⟨sl, h, ho⟩ := opnd_run R hc hg h
    split at h
    · rename_i t0 x0 he
      obtain ⟨_, ad, cs, hv, hG, hcc, hrep⟩ := ho.ref he
      rw [Rd.run_bind'] at h
      obtain ⟨y, hy, h⟩ := Rd.run_opt h
      obtain ⟨e0, rfl⟩ := castV_eq hy
      subst e0
      rw [Rd.run_bind'] at h
      obtain ⟨hck, hk⟩ := Rd.run_check hg h
      simp only [Bool.and_eq_true, decide_eq_true_eq] at hck
      obtain ⟨h0, hn⟩ := hck
      obtain ⟨dsc, hd1, hd2⟩ := hTf.und
      cases dsc <;> simp only [descChk] at hd2 <;> try (cases hd2; done)
      rename_i n' e
      simp only [Bool.and_eq_true, beq_iff_eq] at hd2
      obtain ⟨⟨hnn, hd3⟩, hd4⟩ := hd2
      subst hnn
      have hety : C.ty e = some a := by
        split at hd3
        · rename_i a' ha; simp only [decide_eq_true_eq] at hd3; rw [ha, hd3]
        · cases hd3
      have hes := (tyF (hT _ _ hety)).size
      have hjn : j.toNat < n := by omega
      have hgp : getP [.idx j] (.arr n a) .s x0 = some ⟨a, .s, List.getD x0 j.toNat a.zero⟩ := by simp [getP, Md.e]
      have hwp : walkA w [.idx j] (.arr n a) ad = some (ad.add (j.toNat * a.sz)) := by simp [walkA, hjn]
      obtain ⟨c1, f1, k1, k2, k3, _, _⟩ := readA [.idx j] (.arr n a) .s x0 ad cs [] _ _ hcc hrep hgp hwp
      have hf := rep_s_fp _ _ _ _ k2
      subst hf
      obtain ⟨F', env', g1, g2, g3⟩ := set_ref (e := .ref a (List.getD x0 j.toNat a.zero)) (v := .pointer (some (ad.add (j.toNat * a.sz)))) R hc hg hl ⟨rfl, _, c1, rfl, by rw [add_block]; exact hG, k1, k2⟩ (fun _ _ => by simp) hk
      refine ⟨_, _, _, _, _, .inl ?_, g1, g2, g3⟩
      simp only [execOp, hv, hiv, Instr.indexAt, asIntOf, Sem.run_bind, Sem.run_pure, Result.andThen_ok, run_underlying hd1, Instr.sureAddr]
      simp [h0, hn, hes]
    rw [Rd.run_bind'] at h
    obtain ⟨q, ep, p, h, hrel⟩ := asPlace_run hg R ho h
    rw [Rd.run_bind'] at h
    obtain ⟨t0, m0, x0, u, h1, h2, hu, h⟩ := placeA_run h
    rw [Rd.run_bind'] at h
    obtain ⟨hgd, h⟩ := Rd.run_guard h
    simp only [Bool.and_eq_true, decide_eq_true_eq] at hgd
    obtain ⟨hut, _⟩ := hgd
    rw [Rd.run_bind'] at h
    obtain ⟨hck, hk⟩ := Rd.run_check hg h
    simp only [Bool.and_eq_true, decide_eq_true_eq] at hck
    obtain ⟨h0, hn⟩ := hck
    obtain ⟨ad, c1, f1, hvp, hw, hc1, hr1⟩ := place_rel R hrel h1 h2 hu
    obtain ⟨dsc, hd1, hd2⟩ := hTf.und
    cases dsc <;> simp only [descChk] at hd2 <;> try (cases hd2; done)
    rename_i n' e
    simp only [Bool.and_eq_true, beq_iff_eq] at hd2
    obtain ⟨⟨hnn, hd3⟩, hd4⟩ := hd2
    subst hnn
    have hety : C.ty e = some a := by
      split at hd3
      · rename_i a' ha; simp only [decide_eq_true_eq] at hd3; rw [ha, hd3]
      · cases hd3
    have hes := (tyF (hT _ _ hety)).size
    obtain ⟨ut, um, ux⟩ := u
    simp only at hut
    subst hut
    have hjn : j.toNat < n := by omega
    have hgp : getP (p ++ [.idx j]) t0 m0 x0 = some ⟨a, um.e, ux.getD j.toNat a.zero⟩ := by rw [getP_append, hu]; simp [getP]
    have hwp : walkV w (p ++ [.idx j]) t0 (unpack t0 (ts.getD q undef)) = some (ad.add (j.toNat * a.sz)) := by
      rw [walkV_append p _ t0 m0 x0 _ _ ad hu hw]
      simp [walkA, hjn]
    obtain ⟨F', env', k1, k2, k3⟩ := set_ref (e := .addr q ep (p ++ [.idx j])) (v := .pointer (some (ad.add (j.toNat * a.sz)))) R hc hg hl
      ⟨rfl, hrel.2.1, fun _ => ⟨t0, m0, x0, _, _, h1, hgp, hwp, rfl⟩⟩ (fun _ _ => by simp) hk
    refine ⟨_, _, _, _, _, .inl ?_, k1, k2, k3⟩
    simp only [execOp, hvp, hiv, Instr.indexAt, asIntOf, Sem.run_bind, Sem.run_pure, Result.andThen_ok, run_underlying hd1, Instr.sureAddr]
    simp [h0, hn, hes]
  · simp at h

end
end Go.VL

namespace Go.VL

/-- types whose '==' the model decides part by part; the second is for a struct's fields -/
def eqC (P : Program) (ty : TypeId → Option Ty) : Ty → (TypeId → Bool) × (List Field → Bool)
  | .pair a b =>
    let fs : List Field → Bool := fun l => match l with | f :: fs => (eqC P ty a).1 f.type && (eqC P ty b).2 fs | [] => false
    (fun T => !P.stoodInHeld T && (match P.underlying T with
      | some (.struct l) => fs l.toList
      | _ => false), fs)
  | .arr _ a => (fun T => (match P.underlying T with
      | some (.array _ e) => (eqC P ty a).1 e
      | _ => false), fun _ => false)
  | .int _ => (fun _ => true, fun _ => false)
  | .bool => (fun _ => true, fun _ => false)
  | .str => (fun _ => true, fun _ => false)
  | .unit => (fun _ => false, fun l => l.isEmpty)
  | .list _ => (fun _ => false, fun _ => false)
  | .ptr _ => (fun _ => false, fun _ => false)
  | .fn => (fun _ => false, fun _ => false)

def eqTyChk (P : Program) (ty : TypeId → Option Ty) (t : Ty) (T : TypeId) : Bool := (eqC P ty t).1 T
def eqFs (P : Program) (ty : TypeId → Option Ty) (t : Ty) (l : List Field) : Bool := (eqC P ty t).2 l

section
variable {P : Program} {ty : TypeId → Option Ty}
theorem eqTyChk_pair {a b : Ty} {T : TypeId} : eqTyChk P ty (.pair a b) T = (!P.stoodInHeld T && (match P.underlying T with | some (.struct fs) => eqFs P ty (.pair a b) fs.toList | _ => false)) := rfl
theorem eqTyChk_arr {n : Nat} {a : Ty} {T : TypeId} : eqTyChk P ty (.arr n a) T = (match P.underlying T with | some (.array _ e) => eqTyChk P ty a e | _ => false) := rfl
theorem eqTyChk_unit {T : TypeId} : eqTyChk P ty .unit T = false := rfl
theorem eqTyChk_list {a : Ty} {T : TypeId} : eqTyChk P ty (.list a) T = false := rfl
theorem eqTyChk_ptr {a : Ty} {T : TypeId} : eqTyChk P ty (.ptr a) T = false := rfl
theorem eqTyChk_fn {T : TypeId} : eqTyChk P ty .fn T = false := rfl
theorem eqFs_cons {a b : Ty} {f : Field} {fs : List Field} : eqFs P ty (.pair a b) (f :: fs) = (eqTyChk P ty a f.type && eqFs P ty b fs) := rfl
theorem eqFs_nil {a b : Ty} : eqFs P ty (.pair a b) [] = false := rfl
theorem eqFs_unit {l : List Field} : eqFs P ty .unit l = l.isEmpty := rfl
theorem eqFs_int {k : IntKind} {l : List Field} : eqFs P ty (.int k) l = false := rfl
theorem eqFs_bool {l : List Field} : eqFs P ty .bool l = false := rfl
theorem eqFs_str {l : List Field} : eqFs P ty .str l = false := rfl
theorem eqFs_list {a : Ty} {l : List Field} : eqFs P ty (.list a) l = false := rfl
theorem eqFs_ptr {a : Ty} {l : List Field} : eqFs P ty (.ptr a) l = false := rfl
theorem eqFs_fn {l : List Field} : eqFs P ty .fn l = false := rfl
theorem eqFs_arr {n : Nat} {a : Ty} {l : List Field} : eqFs P ty (.arr n a) l = false := rfl
end

def EqsOk (P : Program) (C : Ctx) : Prop := ∀ T t, C.ty T = some t → C.eqs T = true → eqTyChk P C.ty t T = true ∧ (t.agg = true → P.eqGuardType P.depth T = false)

theorem bytesV_eq (s s' : ByteArray) : (bytesV s == bytesV s') = (s.toList == s'.toList) := by
  have key : ∀ l l' : List UInt8, (l.map (fun b => (b.toNat : Int)) == l'.map fun b => (b.toNat : Int)) = (l == l') := by
    intro l
    induction l with
    | nil => intro l'; cases l' <;> rfl
    | cons a l ih =>
      intro l'
      cases l' with
      | nil => rfl
      | cons b l' =>
        simp only [List.map_cons, List.cons_beq_cons, ih]
        congr 1
        rw [Bool.eq_iff_iff]
        simp only [beq_iff_eq]
        constructor
        · intro h; exact UInt8.toNat_inj.1 (by omega)
        · intro h; rw [h]
  rw [bytesV, bytesV, key, ByteArray.toList_eq, ByteArray.toList_eq]

section
variable {P : Program} {C : Ctx}

theorem run_part {T : TypeId} {t : Ty} (f : TyF P C T t) {w : World} {xs : Array Value} {pre c post : List Value} {off : Nat} (hx : xs.toList = pre ++ (c ++ post)) (ho : pre.length = off) (hl : c.length = t.sz) :
    (part T xs off).run P w = .ok (pack t c) w := by
  simp only [part, Sem.run_bind, f.agg, Result.andThen_ok]
  by_cases ha : t.agg = true
  · simp only [ha, if_true, Sem.run_bind, f.size, Result.andThen_ok, pack]
    have : xs.extract off (off + t.sz) = c.toArray := by
      apply Array.toList_inj.1
      rw [Array.toList_extract, hx, List.extract_eq_take_drop, ← ho, Nat.add_sub_cancel_left, List.drop_left, ← hl, List.take_left]
    rw [this]
    rfl
  · simp only [ha, if_false, Bool.false_eq_true, pack]
    have hz : t.sz = 1 := by cases t <;> first | rfl | simp [Ty.agg] at ha
    rw [hz] at hl
    match c, hl with
    | [v], _ =>
      have : xs[off]? = some v := by
        rw [← Array.getElem?_toList, hx, List.getElem?_append_right (by omega), ho]
        simp
      simp [this]

def eqElems (d : Nat) (elem : TypeId) (n : Nat) (xs ys : Array Value) : List Nat → Sem Bool
  | [] => pure true
  | i :: l => do
    let a ← part elem xs (i * n)
    let b ← part elem ys (i * n)
    let r ← Op.equalIn d elem a b
    if (!r) = true then pure false else eqElems d elem n xs ys l

theorem run_equalIn_array (w : World) (d : Nat) (t elem : TypeId) (len n : Nat) (xs ys : Array Value) (ht : P.underlying t = some (.array len elem)) (hs : ∀ w, (sizeOf elem).run P w = .ok n w) :
    (Op.equalIn (d + 1) t (.agg xs) (.agg ys)).run P w = (eqElems d elem n xs ys (List.range' 0 len)).run P w := by
  simp only [Op.equalIn, Sem.run_bind, run_underlying ht, Result.andThen_ok, hs, Std.Legacy.Range.forIn_eq_forIn_range', Std.Legacy.Range.size, Nat.sub_zero, Nat.add_sub_cancel, Nat.div_one]
  generalize List.range' 0 len = l
  induction l generalizing w with
  | nil => simp [eqElems]
  | cons i l ih =>
    simp only [List.forIn_cons, eqElems, Sem.run_bind]
    generalize (part elem xs (i * n)).run P w = r1
    cases r1 with
    | ok a w1 =>
      simp only [Result.andThen_ok]
      generalize (part elem ys (i * n)).run P w1 = r2
      cases r2 with
      | ok b w2 =>
        simp only [Result.andThen_ok]
        generalize (Op.equalIn d elem a b).run P w2 = r3
        cases r3 with
        | ok r w3 =>
          cases r
          · simp only [Result.andThen_ok, Bool.not_false, if_true, Sem.run_pure]
          · simp only [Result.andThen_ok, Bool.not_true, Bool.false_eq_true, if_false, Sem.run_pure]
            exact ih w3
        | halt x w3 => simp [Result.andThen]
      | halt x w2 => simp [Result.andThen]
    | halt x w1 => simp [Result.andThen]

theorem run_equal (hT : TysOk P C) {G : Nat → Prop} {w : World} : ∀ (t : Ty),
    (∀ (T : TypeId) (d : Nat) (m m' : Md) (x y : t.den) (va vb : Value) (f f' : List Res), C.ty T = some t → eqTyChk P C.ty t T = true → t.dep ≤ d → vrel G w t m x va f → vrel G w t m' y vb f' →
      (Op.equalIn d T va vb).run P w = .ok (eqv t x y) w) ∧
    (∀ (fs : List Field) (d off : Nat) (m m' : Md) (x y : t.den) (xs ys : Array Value) (p1 p2 c1 c2 : List Value) (f f' : List Res), eqFs P C.ty t fs = true → fieldsChk C.ty fs off t = true → t.dep ≤ d + 1 →
      xs.toList = p1 ++ c1 → ys.toList = p2 ++ c2 → p1.length = off → p2.length = off → rep G w t m x c1 f → rep G w t m' y c2 f' → (Op.eqFields d xs ys fs).run P w = .ok (eqv t x y) w) := by
  intro t
  induction t with
  | int k =>
    refine ⟨fun T d m m' x y va vb f f' hty _ hd hx hy => ?_, fun fs => by intros; rename_i h _ _ _ _ _ _ _ _; cases fs <;> simp [eqFs_int] at h⟩
    obtain ⟨dsc, hd1, hd2⟩ := (tyF (hT _ _ hty)).und
    cases dsc <;> simp only [descChk] at hd2 <;> try (cases hd2; done)
    obtain ⟨d, rfl⟩ : ∃ e, d = e + 1 := ⟨d - 1, by simp [Ty.dep] at hd; omega⟩
    rw [int_val hx, int_val hy, run_equalIn_int w d T _ _ _ _ hd1]
    congr 1
  | bool =>
    refine ⟨fun T d m m' x y va vb f f' hty _ hd hx hy => ?_, fun fs => by intros; rename_i h _ _ _ _ _ _ _ _; cases fs <;> simp [eqFs_bool] at h⟩
    obtain ⟨dsc, hd1, hd2⟩ := (tyF (hT _ _ hty)).und
    cases dsc <;> simp only [descChk] at hd2 <;> try (cases hd2; done)
    obtain ⟨d, rfl⟩ : ∃ e, d = e + 1 := ⟨d - 1, by simp [Ty.dep] at hd; omega⟩
    rw [bool_val hx, bool_val hy, run_equalIn_bool' w d T _ _ hd1]
    rfl
  | str =>
    refine ⟨fun T d m m' x y va vb f f' hty _ hd hx hy => ?_, fun fs => by intros; rename_i h _ _ _ _ _ _ _ _; cases fs <;> simp [eqFs_str] at h⟩
    obtain ⟨dsc, hd1, hd2⟩ := (tyF (hT _ _ hty)).und
    cases dsc <;> simp only [descChk] at hd2 <;> try (cases hd2; done)
    obtain ⟨d, rfl⟩ : ∃ e, d = e + 1 := ⟨d - 1, by simp [Ty.dep] at hd; omega⟩
    obtain ⟨s, rfl, rfl⟩ := str_val hx
    obtain ⟨s', rfl, rfl⟩ := str_val hy
    rw [run_equalIn_string w d T _ _ hd1]
    simp only [eqv]
    rw [← bytesV_eq]
  | unit =>
    refine ⟨fun T d m m' x y va vb f f' hty h => by simp [eqTyChk_unit] at h, ?_⟩
    intro fs d off m m' x y xs ys p1 p2 c1 c2 f f' h1 h2 hd hx hy ho ho' hr hr'
    cases fs with
    | nil => simp [Op.eqFields, eqv]
    | cons fl fs => simp [eqFs_unit] at h1
  | list a _ => exact ⟨fun T d m m' x y va vb f f' hty h => by simp [eqTyChk_list] at h, fun fs => by intros; rename_i h _ _ _ _ _ _ _ _; cases fs <;> simp [eqFs_list] at h⟩
  | ptr a _ => exact ⟨fun T d m m' x y va vb f f' hty h => by simp [eqTyChk_ptr] at h, fun fs => by intros; rename_i h _ _ _ _ _ _ _ _; cases fs <;> simp [eqFs_ptr] at h⟩
  | fn => exact ⟨fun T d m m' x y va vb f f' hty h => by simp [eqTyChk_fn] at h, fun fs => by intros; rename_i h _ _ _ _ _ _ _ _; cases fs <;> simp [eqFs_fn] at h⟩
  | pair a b iha ihb =>
    have fields : ∀ (fs : List Field) (d off : Nat) (m m' : Md) (x y : (Ty.pair a b).den) (xs ys : Array Value) (p1 p2 c1 c2 : List Value) (f f' : List Res), eqFs P C.ty (.pair a b) fs = true → fieldsChk C.ty fs off (.pair a b) = true → (Ty.pair a b).dep ≤ d + 1 →
      xs.toList = p1 ++ c1 → ys.toList = p2 ++ c2 → p1.length = off → p2.length = off → rep G w (.pair a b) m x c1 f → rep G w (.pair a b) m' y c2 f' → (Op.eqFields d xs ys fs).run P w = .ok (eqv (.pair a b) x y) w := by
      intro fs d off m m' x y xs ys p1 p2 c1 c2 f f' h1 h2 hd hx hy ho ho' hr hr'
      cases fs with
      | nil => simp [eqFs_nil] at h1
      | cons fl fs =>
        simp only [eqFs_cons, Bool.and_eq_true] at h1
        simp only [fieldsChk, Bool.and_eq_true, beq_iff_eq, bne_iff_ne] at h2
        obtain ⟨⟨⟨⟨hoff, hfty⟩, _⟩, hname⟩, hrest⟩ := h2
        have hfty : C.ty fl.type = some a := by
          split at hfty
          · rename_i a' ha; simp only [decide_eq_true_eq] at hfty; rw [ha, hfty]
          · cases hfty
        simp only [Ty.dep] at hd
        obtain ⟨ca, cb, fa, fb, ra, rb, rfl, rfl⟩ := hr
        obtain ⟨ca', cb', fa', fb', ra', rb', rfl, rfl⟩ := hr'
        have la := rep_len _ _ _ _ _ ra
        have la' := rep_len _ _ _ _ _ ra'
        have hF := tyF (hT _ _ hfty)
        simp only [Op.eqFields, ne_eq, hname, not_false_eq_true, if_true, Sem.run_bind, run_part hF hx (ho.trans hoff.symm) la, run_part hF hy (ho'.trans hoff.symm) la', Result.andThen_ok]
        rw [iha.1 fl.type d _ _ x.1 y.1 _ _ _ _ hfty h1.1 (by omega) (vrel_pack ra) (vrel_pack ra')]
        simp only [Result.andThen_ok, eqv]
        cases eqv a x.1 y.1 with
        | false => simp
        | true =>
          simp only [Bool.not_true, Bool.false_eq_true, if_false, Bool.true_and]
          exact ihb.2 fs d (off + a.sz) _ _ x.2 y.2 xs ys (p1 ++ ca) (p2 ++ ca') cb cb' _ _ h1.2 hrest (by omega) (by rw [hx]; simp) (by rw [hy]; simp) (by simp [ho, la]) (by simp [ho', la']) rb rb'
    refine ⟨fun T d m m' x y va vb f f' hty hq hd hx hy => ?_, fields⟩
    obtain ⟨dsc, hd1, hd2⟩ := (tyF (hT _ _ hty)).und
    simp only [eqTyChk_pair, hd1, Bool.and_eq_true, Bool.not_eq_true'] at hq
    obtain ⟨hst, hq⟩ := hq
    cases dsc <;> simp only [descChk] at hd2 <;> try (cases hd2; done)
    rename_i fs
    obtain ⟨d, rfl⟩ : ∃ e, d = e + 1 := ⟨d - 1, by simp [Ty.dep] at hd; omega⟩
    have e1 := hx.2
    have e2 := hy.2
    simp only [pack, Ty.agg, if_true] at e1 e2
    rw [← e1, ← e2]
    have hfo : P.fieldsOf T = fs := by simp [Program.fieldsOf, hd1]
    rw [run_equalIn_struct w d T _ _ (by rw [hfo]; exact hd1) hst, hfo]
    exact fields fs.toList d 0 m m' x y _ _ [] [] _ _ _ _ hq hd2 hd (by simp) (by simp) rfl rfl hx.1 hy.1
  | arr n a iha =>
    refine ⟨fun T d m m' x y va vb f f' hty hq hd hx hy => ?_, fun fs => by intros; rename_i h _ _ _ _ _ _ _ _; cases fs <;> simp [eqFs_arr] at h⟩
    obtain ⟨dsc, hd1, hd2⟩ := (tyF (hT _ _ hty)).und
    simp only [eqTyChk_arr, hd1] at hq
    cases dsc <;> simp only [descChk] at hd2 <;> try (cases hd2; done)
    rename_i n' e
    simp only [Bool.and_eq_true, beq_iff_eq] at hd2
    obtain ⟨⟨hnn, hd3⟩, hd4⟩ := hd2
    subst hnn
    have hety : C.ty e = some a := by
      split at hd3
      · rename_i a' ha; simp only [decide_eq_true_eq] at hd3; rw [ha, hd3]
      · cases hd3
    have hF := tyF (hT _ _ hety)
    obtain ⟨d, rfl⟩ : ∃ e, d = e + 1 := ⟨d - 1, by simp [Ty.dep] at hd; omega⟩
    simp only [Ty.dep] at hd
    have e1 := hx.2
    have e2 := hy.2
    simp only [pack, Ty.agg, if_true] at e1 e2
    rw [← e1, ← e2, run_equalIn_array w d T e n a.sz _ _ hd1 hF.size]
    have hx1 := hx.1
    have hy1 := hy.1
    obtain ⟨hxn, hx1⟩ := hx1
    obtain ⟨hyn, hy1⟩ := hy1
    have key : ∀ (xs ys : List a.den) (k : Nat) (X Y : Array Value) (p1 p2 c1 c2 : List Value) (f f' : List Res), xs.length = ys.length → X.toList = p1 ++ c1 → Y.toList = p2 ++ c2 → p1.length = k * a.sz → p2.length = k * a.sz →
        repA (rep G w a m.e) xs c1 f → repA (rep G w a m'.e) ys c2 f' → (eqElems d e a.sz X Y (List.range' k xs.length)).run P w = .ok (List.all (List.zip xs ys) fun z => eqv a z.1 z.2) w := by
      intro xs
      induction xs with
      | nil => intro ys k X Y p1 p2 c1 c2 f f' hl _ _ _ _ _ _; cases ys <;> simp at hl; simp [eqElems]
      | cons z zs ih =>
        intro ys k X Y p1 p2 c1 c2 f f' hl hX hY h1 h2 r1 r2
        cases ys with
        | nil => simp at hl
        | cons z' zs' =>
          obtain ⟨ca, cb, fa, fb, ra, rb, rfl, rfl⟩ := r1
          obtain ⟨ca', cb', fa', fb', ra', rb', rfl, rfl⟩ := r2
          have la := rep_len _ _ _ _ _ ra
          have la' := rep_len _ _ _ _ _ ra'
          simp only [List.length_cons, List.range'_succ, eqElems, Sem.run_bind, run_part hF hX h1 la, run_part hF hY h2 la', Result.andThen_ok]
          rw [iha.1 e d _ _ z z' _ _ _ _ hety hq (by omega) (vrel_pack ra) (vrel_pack ra')]
          simp only [Result.andThen_ok, List.zip_cons_cons, List.all_cons]
          cases eqv a z z' with
          | false => simp
          | true =>
            simp only [Bool.not_true, Bool.false_eq_true, if_false, Bool.true_and]
            exact ih zs' (k + 1) X Y (p1 ++ ca) (p2 ++ ca') cb cb' _ _ (by simpa using hl) (by rw [hX]; simp) (by rw [hY]; simp) (by simp [h1, la, Nat.add_mul]) (by simp [h2, la', Nat.add_mul]) rb rb'
    have := key x y 0 (unpack (.arr n a) va).toArray (unpack (.arr n a) vb).toArray [] [] _ _ _ _ (hxn.trans hyn.symm) (by simp) (by simp) (by simp) (by simp) hx1 hy1
    rw [hxn] at this
    exact this

end
end Go.VL

namespace Go.VL
section
variable {P : Program} {C : Ctx} {B : Base} {G : Nat → Prop} {F : Nat → List Res} {H : List (TV × Value)} {env : Env} {ts : List Value} {w : World}
variable {ρ : Type} {c : List GI} {K : Unit → Env → Option ρ} {r : ρ} {ty : TypeId} {pos : String} {after : Array Edge} {gd : Option (Nat × Bool)}

theorem vrel_int (k : IntKind) (x : Int) (m : Md) : vrel G w (.int k) m x (.int k x) [] := ⟨⟨rfl, rfl⟩, rfl⟩
theorem vrel_bool (x : Bool) (m : Md) : vrel G w .bool m x (.bool x) [] := ⟨⟨rfl, rfl⟩, rfl⟩

theorem eqGuard_run {T : TypeId} {op : BinOp} {x y : Operand} {t : Ty} {m : Md} {xv : t.den} {va vb : Value} {f : List Res} (hq : t.agg = true → P.eqGuardType P.depth T = false) (hok : t.eqOk = true) (hx : vrel G w t m xv va f) :
    (eqGuard op T x y va vb).run P w = .ok () w := by
  have hn : va ≠ .nilIface := by
    intro e
    have h := hx.2
    have hr := hx.1
    rw [e] at hr
    cases t <;> simp only [unpack, Ty.agg, if_false, if_true, Bool.false_eq_true, Ty.eqOk] at hr hok <;> try (cases hok; done)
    · simp [rep] at hr
    · simp [rep] at hr
    · simp [rep] at hr
    · rw [e] at h; simp [pack, Ty.agg] at h
    · rw [e] at h; simp [pack, Ty.agg] at h
    · rw [e] at h; simp [pack, Ty.agg] at h
  by_cases hag : t.agg = true
  · have e1 := hx.2
    simp only [pack, hag, if_true] at e1
    rw [← e1]
    unfold eqGuard
    cases op <;> simp <;> (cases vb <;> simp [hq hag])
  · have : ∀ cs, va ≠ .agg cs := by
      intro cs e
      have hr := hx.1
      rw [e] at hr
      cases t <;> (try (simp [Ty.agg] at hag; done)) <;> (try (simp [Ty.eqOk] at hok; done)) <;> simp [unpack, Ty.agg, rep] at hr
    unfold eqGuard
    cases op <;> simp <;> (cases va <;> first | (exact absurd rfl hn) | (exact absurd rfl (this _)) | (cases vb <;> rfl))

theorem binV_run (hT : TysOk P C) (hE : EqsOk P C) {T : TypeId} {op : BinOp} {x y : Operand} {ta tb : Ty} {xa : ta.den} {xb : tb.den} {va vb : Value} {b : Bool} {u : TV}
    (hq : (match op with | .eql | .neq => decide (C.ty T = some ta) && C.eqs T && decide (ta.dep ≤ 10000) | _ => true) = true)
    (h : binV op ⟨ta, .s, xa⟩ ⟨tb, .s, xb⟩ = some (b, u)) (hb : b = true) (hx : vrel G w ta .s xa va []) (hy : vrel G w tb .s xb vb []) :
    ∃ v, (do eqGuard op T x y va vb; binOp op T va vb : Sem Value).run P w = .ok v w ∧ vrel G w u.t u.m u.x v [] := by
  subst hb
  have ints : ∀ {k : IntKind} {x' : Int} {v : Value}, vrel G w (.int k) .s x' v [] → v = .int k x' := int_val
  cases op with
  | eql =>
    simp only [Bool.and_eq_true, decide_eq_true_eq] at hq
    obtain ⟨⟨hty, heq⟩, hdep⟩ := hq
    simp only [binV] at h
    split at h
    case isFalse => cases h
    rename_i hok
    simp only [Option.map_eq_some_iff, Prod.mk.injEq, true_and] at h
    obtain ⟨z, hz, rfl⟩ := h
    obtain ⟨e, rfl⟩ := castV_eq hz
    subst e
    obtain ⟨hq1, hq2⟩ := hE T tb hty heq
    have hg := eqGuard_run (op := .eql) (x := x) (y := y) (vb := vb) hq2 hok hx
    refine ⟨.bool (eqv tb xa xb), ?_, vrel_bool _ _⟩
    simp only [Sem.run_bind, hg, Result.andThen_ok]
    have hrun := (run_equal hT tb).1 T 10000 .s .s xa xb va vb [] [] hty hq1 hdep hx hy
    have gen : (∀ k a, va ≠ .int k a) → (∀ s, va ≠ .string s) → (∀ k n, va ≠ .float k n) → (∀ k n m, va ≠ .complex k n m) → binOp .eql T va vb = (do pure (.bool (← Op.equal T va vb)) : Sem Value) := by
      intro h1 h2 h3 h4
      cases va <;> first | exact absurd rfl (h1 _ _) | exact absurd rfl (h2 _) | exact absurd rfl (h3 _ _) | exact absurd rfl (h4 _ _ _) | (cases vb <;> rfl)
    cases tb with
    | int k =>
      rw [int_val hx, int_val hy, binOp_eql, Sem.run_pure]
      congr 2
    | str =>
      obtain ⟨s, rfl, rfl⟩ := str_val hx
      obtain ⟨s', rfl, rfl⟩ := str_val hy
      show (Op.stringOp .eql s s').run P w = _
      simp only [Op.stringOp, Sem.run_pure, eqv]
      rw [← bytesV_eq]
    | bool =>
      rw [gen (fun k a => by rw [bool_val hx]; simp) (fun s => by rw [bool_val hx]; simp) (fun k n => by rw [bool_val hx]; simp) (fun k n m => by rw [bool_val hx]; simp)]
      simp only [Sem.run_bind, Op.equal, Op.maxDepth, hrun, Result.andThen_ok, Sem.run_pure]
    | unit => simp [eqTyChk_unit] at hq1
    | list a => simp [Ty.eqOk] at hok
    | ptr a => simp [Ty.eqOk] at hok
    | fn => simp [Ty.eqOk] at hok
    | pair a b =>
      have e1 := hx.2
      simp only [pack, Ty.agg, if_true] at e1
      rw [gen (fun k a => by rw [← e1]; simp) (fun s => by rw [← e1]; simp) (fun k n => by rw [← e1]; simp) (fun k n m => by rw [← e1]; simp)]
      simp only [Sem.run_bind, Op.equal, Op.maxDepth, hrun, Result.andThen_ok, Sem.run_pure]
    | arr n a =>
      have e1 := hx.2
      simp only [pack, Ty.agg, if_true] at e1
      rw [gen (fun k a => by rw [← e1]; simp) (fun s => by rw [← e1]; simp) (fun k n => by rw [← e1]; simp) (fun k n m => by rw [← e1]; simp)]
      simp only [Sem.run_bind, Op.equal, Op.maxDepth, hrun, Result.andThen_ok, Sem.run_pure]
  | neq =>
    simp only [Bool.and_eq_true, decide_eq_true_eq] at hq
    obtain ⟨⟨hty, heq⟩, hdep⟩ := hq
    simp only [binV] at h
    split at h
    case isFalse => cases h
    rename_i hok
    simp only [Option.map_eq_some_iff, Prod.mk.injEq, true_and] at h
    obtain ⟨z, hz, rfl⟩ := h
    obtain ⟨e, rfl⟩ := castV_eq hz
    subst e
    obtain ⟨hq1, hq2⟩ := hE T tb hty heq
    have hg := eqGuard_run (op := .neq) (x := x) (y := y) (vb := vb) hq2 hok hx
    refine ⟨.bool (!(eqv tb xa xb)), ?_, vrel_bool _ _⟩
    simp only [Sem.run_bind, hg, Result.andThen_ok]
    have hrun := (run_equal hT tb).1 T 10000 .s .s xa xb va vb [] [] hty hq1 hdep hx hy
    have gen : (∀ k a, va ≠ .int k a) → (∀ s, va ≠ .string s) → (∀ k n, va ≠ .float k n) → (∀ k n m, va ≠ .complex k n m) → binOp .neq T va vb = (do pure (.bool (!(← Op.equal T va vb))) : Sem Value) := by
      intro h1 h2 h3 h4
      cases va <;> first | exact absurd rfl (h1 _ _) | exact absurd rfl (h2 _) | exact absurd rfl (h3 _ _) | exact absurd rfl (h4 _ _ _) | (cases vb <;> rfl)
    cases tb with
    | int k =>
      rw [int_val hx, int_val hy, binOp_neq, Sem.run_pure]
      congr 2
    | str =>
      obtain ⟨s, rfl, rfl⟩ := str_val hx
      obtain ⟨s', rfl, rfl⟩ := str_val hy
      show (Op.stringOp .neq s s').run P w = _
      simp only [Op.stringOp, Sem.run_pure, eqv]
      rw [← bytesV_eq]
    | bool =>
      rw [gen (fun k a => by rw [bool_val hx]; simp) (fun s => by rw [bool_val hx]; simp) (fun k n => by rw [bool_val hx]; simp) (fun k n m => by rw [bool_val hx]; simp)]
      simp only [Sem.run_bind, Op.equal, Op.maxDepth, hrun, Result.andThen_ok, Sem.run_pure]
    | unit => simp [eqTyChk_unit] at hq1
    | list a => simp [Ty.eqOk] at hok
    | ptr a => simp [Ty.eqOk] at hok
    | fn => simp [Ty.eqOk] at hok
    | pair a b =>
      have e1 := hx.2
      simp only [pack, Ty.agg, if_true] at e1
      rw [gen (fun k a => by rw [← e1]; simp) (fun s => by rw [← e1]; simp) (fun k n => by rw [← e1]; simp) (fun k n m => by rw [← e1]; simp)]
      simp only [Sem.run_bind, Op.equal, Op.maxDepth, hrun, Result.andThen_ok, Sem.run_pure]
    | arr n a =>
      have e1 := hx.2
      simp only [pack, Ty.agg, if_true] at e1
      rw [gen (fun k a => by rw [← e1]; simp) (fun s => by rw [← e1]; simp) (fun k n => by rw [← e1]; simp) (fun k n m => by rw [← e1]; simp)]
      simp only [Sem.run_bind, Op.equal, Op.maxDepth, hrun, Result.andThen_ok, Sem.run_pure]
  | shl =>
    cases ta <;> simp only [binV] at h <;> try (cases h; done)
    cases tb <;> simp only at h <;> try (cases h; done)
    simp only [Option.some.injEq, Prod.mk.injEq, decide_eq_true_eq] at h
    obtain ⟨h0, rfl⟩ := h
    rw [int_val hx, int_val hy]
    refine ⟨_, ?_, vrel_int _ _ _⟩
    simp only [eqGuard_shl, Sem.run_bind, Sem.run_pure, Result.andThen_ok, binOp_shl, Op.shift]
    rw [if_neg (by omega)]
    rfl
  | shr =>
    cases ta <;> simp only [binV] at h <;> try (cases h; done)
    cases tb <;> simp only at h <;> try (cases h; done)
    simp only [Option.some.injEq, Prod.mk.injEq, decide_eq_true_eq] at h
    obtain ⟨h0, rfl⟩ := h
    rw [int_val hx, int_val hy]
    refine ⟨_, ?_, vrel_int _ _ _⟩
    simp only [eqGuard_shr, Sem.run_bind, Sem.run_pure, Result.andThen_ok, binOp_shr, Op.shift]
    rw [if_neg (by omega)]
    rfl
  | quo =>
    cases ta <;> simp only [binV] at h <;> try (cases h; done)
    cases tb <;> simp only at h <;> try (cases h; done)
    split at h
    case isFalse => cases h
    rename_i hk
    subst hk
    simp only [Option.some.injEq, Prod.mk.injEq, Bool.not_eq_true', decide_eq_false_iff_not] at h
    obtain ⟨h0, rfl⟩ := h
    rw [int_val hx, int_val hy]
    refine ⟨_, ?_, vrel_int _ _ _⟩
    simp only [eqGuard_quo, Sem.run_bind, Sem.run_pure, Result.andThen_ok, binOp_quo, Op.intDiv, h0, if_false]
  | rem =>
    cases ta <;> simp only [binV] at h <;> try (cases h; done)
    cases tb <;> simp only at h <;> try (cases h; done)
    split at h
    case isFalse => cases h
    rename_i hk
    subst hk
    simp only [Option.some.injEq, Prod.mk.injEq, Bool.not_eq_true', decide_eq_false_iff_not] at h
    obtain ⟨h0, rfl⟩ := h
    rw [int_val hx, int_val hy]
    refine ⟨_, ?_, vrel_int _ _ _⟩
    simp only [eqGuard_rem, Sem.run_bind, Sem.run_pure, Result.andThen_ok, binOp_rem, Op.intDiv, h0, if_false]
  | _ =>
    cases ta <;> simp only [binV] at h <;> try (cases h; done)
    cases tb <;> simp only at h <;> try (cases h; done)
    split at h
    case isFalse => cases h
    rename_i hk
    subst hk
    simp only [Option.some.injEq, Prod.mk.injEq, true_and] at h
    subst h
    rw [int_val hx, int_val hy]
    refine ⟨_, ?_, by first | exact vrel_int _ _ _ | exact vrel_bool _ _⟩
    first
      | (simp only [eqGuard_add, Sem.run_bind, Sem.run_pure, Result.andThen_ok, binOp_add, Op.intArith]; done)
      | (simp only [eqGuard_sub, Sem.run_bind, Sem.run_pure, Result.andThen_ok, binOp_sub, Op.intArith]; done)
      | (simp only [eqGuard_mul, Sem.run_bind, Sem.run_pure, Result.andThen_ok, binOp_mul, Op.intArith]; done)
      | (simp only [eqGuard_and, Sem.run_bind, Sem.run_pure, Result.andThen_ok, binOp_and]; rfl)
      | (simp only [eqGuard_or, Sem.run_bind, Sem.run_pure, Result.andThen_ok, binOp_or]; rfl)
      | (simp only [eqGuard_xor, Sem.run_bind, Sem.run_pure, Result.andThen_ok, binOp_xor]; rfl)
      | (simp only [eqGuard_andNot, Sem.run_bind, Sem.run_pure, Result.andThen_ok, binOp_andNot]; rfl)
      | (simp only [eqGuard_lss, Sem.run_bind, Sem.run_pure, Result.andThen_ok, binOp_lss]; done)
      | (simp only [eqGuard_leq, Sem.run_bind, Sem.run_pure, Result.andThen_ok, binOp_leq]; done)
      | (simp only [eqGuard_gtr, Sem.run_bind, Sem.run_pure, Result.andThen_ok, binOp_gtr] <;> rfl)
      | (simp only [eqGuard_geq, Sem.run_bind, Sem.run_pure, Result.andThen_ok, binOp_geq] <;> rfl)

theorem equal_nil {T e : TypeId} {A : Option Addr} {n cap : Nat} (h : P.underlying T = some (.slice e)) : (Op.equal T (.slice A n cap) (.slice none 0 0)).run P w = .ok A.isNone w := by
  show (Op.equalIn (9999 + 1) T _ _).run P w = _
  rw [Op.equalIn]
  simp only [Sem.run_bind, run_underlying h, Result.andThen_ok]
  cases A <;> rfl

theorem op_binOp {T T' : TypeId} {op : BinOp} {x y : Operand} {d : Nat} (hT : TysOk P C) (hE : EqsOk P C) (R : RelX B G F [] env ts w) (hc : Cur env c) (hg : gOf c = true) (hl : ∀ l ∈ B.lents, l.1 ≠ d)
    (h : (opSem C c ⟨some d, .binOp op T x y T', ty, pos, after, gd⟩).run c (some d) env K = some r) : OpOut P B env ts w ⟨some d, .binOp op T x y T', ty, pos, after, gd⟩ K r := by
  simp only [opSem, Rd.run_bind'] at h
  obtain ⟨sx, h, hox⟩ := opnd_run R hc hg h
  split at h
  · rename_i neg hnil
    rw [Rd.run_bind'] at h
    obtain ⟨u, f, h, hv, _⟩ := peek_run R hox h
    rw [Rd.run_bind'] at h
    obtain ⟨hty, h⟩ := Rd.run_guard h
    simp only [decide_eq_true_eq] at hty
    obtain ⟨ut, um, ux⟩ := u
    cases ut <;> simp only at h <;> try (simp at h; done)
    rename_i ea _
    rw [Rd.run_bind'] at h
    obtain ⟨hm, h⟩ := Rd.run_guard h
    obtain ⟨A, cap, hA, hA0⟩ := list_val (Md.idx_ne hm) hv
    obtain ⟨dt, ht1, ht2⟩ := (tyF (hT _ _ hty)).und
    cases dt <;> simp only [descChk] at ht2 <;> try (cases ht2; done)
    have hb : A.isNone = true → List.isEmpty (α := ea.den) ux = true := by
      intro hn
      rw [List.isEmpty_iff]
      by_cases h0 : 0 < ux.length
      · obtain ⟨a0, h1⟩ := hA0 h0
        rw [h1] at hn; cases hn
      · exact List.eq_nil_of_length_eq_zero (by omega)
    have key : (do eqGuard op T x y (evalO ts x) (evalO ts y); binOp op T (evalO ts x) (evalO ts y) : Sem Value).run P w = .ok (.bool (neg != A.isNone)) w := by
      have he := equal_nil (w := w) (A := A) (n := ux.length) (cap := cap) ht1
      unfold isNilC at hnil
      split at hnil
      · cases hnil
        rw [hA]
        show (do pure PUnit.unit; let q ← Op.equal T (.slice A ux.length cap) (.slice none 0 0); pure (.bool q) : Sem Value).run P w = _
        simp only [Sem.run_bind, Sem.run_pure, Result.andThen_ok, he]
        simp
      · cases hnil
        rw [hA]
        show (do pure PUnit.unit; let q ← Op.equal T (.slice A ux.length cap) (.slice none 0 0); pure (.bool (!q)) : Sem Value).run P w = _
        simp only [Sem.run_bind, Sem.run_pure, Result.andThen_ok, he]
        simp
      · cases hnil
    obtain ⟨F', env', g1, g2, g3⟩ := set_ref (e := .nq neg (List.isEmpty (α := ea.den) ux)) (v := .bool (neg != A.isNone)) R hc hg hl ⟨rfl, _, rfl, hb⟩ (fun _ _ => by simp) h
    refine ⟨_, _, _, _, _, .inl ?_, g1, g2, g3⟩
    simp only [execOp, Sem.run_bind] at key ⊢
    rw [key]
    rfl
  simp only [Rd.run_bind'] at h
  obtain ⟨sy, h, hoy⟩ := opnd_run R hc hg h
  obtain ⟨ta, xa, h, hva⟩ := plainV_run R hox h
  obtain ⟨tb, xb, h, hvb⟩ := plainV_run R hoy h
  obtain ⟨hq, h⟩ := Rd.run_guard h
  obtain ⟨⟨b, u⟩, hbin, h⟩ := Rd.run_opt h
  obtain ⟨hb, h⟩ := Rd.run_check hg h
  obtain ⟨v, hrun, hv⟩ := binV_run (x := x) (y := y) hT hE hq hbin hb hva hvb
  obtain ⟨F', env', g1, g2, g3⟩ := set_plain R hc hg hl hv h
  refine ⟨_, _, _, _, _, .inl ?_, g1, g2, g3⟩
  simp only [execOp, Sem.run_bind] at hrun ⊢
  rw [hrun]
  rfl

theorem op_unOp {T : TypeId} {op : UnOp} {x : Operand} {d : Nat} (R : RelX B G F [] env ts w) (hc : Cur env c) (hg : gOf c = true) (hl : ∀ l ∈ B.lents, l.1 ≠ d)
    (h : (opSem C c ⟨some d, .unOp op T x, ty, pos, after, gd⟩).run c (some d) env K = some r) : OpOut P B env ts w ⟨some d, .unOp op T x, ty, pos, after, gd⟩ K r := by
  simp only [opSem, Rd.run_bind'] at h
  obtain ⟨sx, h, hox⟩ := opnd_run R hc hg h
  obtain ⟨ta, xa, h, hva⟩ := plainV_run R hox h
  obtain ⟨u, hu, h⟩ := Rd.run_opt h
  have : ∃ v, (Op.unary op (evalO ts x)).run P w = .ok v w ∧ vrel G w u.t u.m u.x v [] := by
    cases op <;> cases ta <;> simp only [unV] at hu <;> try (cases hu; done)
    · cases hu
      rw [int_val hva]
      exact ⟨_, rfl, vrel_int _ _ _⟩
    · cases hu
      rw [int_val hva]
      exact ⟨_, rfl, vrel_int _ _ _⟩
    · cases hu
      rw [bool_val hva]
      exact ⟨_, rfl, vrel_bool _ _⟩
  obtain ⟨v, hrun, hv⟩ := this
  obtain ⟨F', env', g1, g2, g3⟩ := set_plain R hc hg hl hv h
  refine ⟨_, _, _, _, _, .inl ?_, g1, g2, g3⟩
  simp only [execOp, Sem.run_bind, hrun, Result.andThen_ok]
  rfl

theorem op_convert {S T : TypeId} {x : Operand} {d : Nat} (hT : TysOk P C) (R : RelX B G F [] env ts w) (hc : Cur env c) (hg : gOf c = true) (hl : ∀ l ∈ B.lents, l.1 ≠ d)
    (h : (opSem C c ⟨some d, .convert S T x, ty, pos, after, gd⟩).run c (some d) env K = some r) : OpOut P B env ts w ⟨some d, .convert S T x, ty, pos, after, gd⟩ K r := by
  simp only [opSem, Rd.run_bind'] at h
  obtain ⟨t, ht, h⟩ := Rd.run_opt h
  obtain ⟨sx, h, hox⟩ := opnd_run R hc hg h
  obtain ⟨ta, xa, h, hva⟩ := plainV_run R hox h
  obtain ⟨hS, h⟩ := Rd.run_guard h
  simp only [decide_eq_true_eq] at hS
  obtain ⟨u, hu, h⟩ := Rd.run_opt h
  obtain ⟨ds, hs1, hs2⟩ := (tyF (hT _ _ hS)).und
  obtain ⟨dt, ht1, ht2⟩ := (tyF (hT _ _ ht)).und
  have : ∃ v, (convert S T (evalO ts x)).run P w = .ok v w ∧ vrel G w u.t u.m u.x v [] := by
    cases t <;> cases ta <;> simp only [convV] at hu <;> try (cases hu; done)
    · cases hu
      rw [int_val hva]
      cases dt <;> simp only [descChk] at ht2 <;> try (cases ht2; done)
      simp only [beq_iff_eq] at ht2
      subst ht2
      refine ⟨_, ?_, vrel_int _ _ _⟩
      simp [convert, run_underlying hs1, run_underlying ht1, Conv.intToInt]
    · cases hu
      obtain ⟨s, hs, rfl⟩ := str_val hva
      rw [hs]
      cases dt <;> simp only [descChk] at ht2 <;> try (cases ht2; done)
      cases ds <;> simp only [descChk] at hs2 <;> try (cases hs2; done)
      refine ⟨.string s, ?_, ⟨⟨⟨s, rfl, rfl⟩, rfl⟩, rfl⟩⟩
      simp [convert, run_underlying hs1, run_underlying ht1]
  obtain ⟨v, hrun, hv⟩ := this
  obtain ⟨F', env', g1, g2, g3⟩ := set_plain R hc hg hl hv h
  refine ⟨_, _, _, _, _, .inl ?_, g1, g2, g3⟩
  simp only [execOp, Sem.run_bind, hrun, Result.andThen_ok]
  rfl

theorem op_len {xs : Array Operand} {Ts : Array TypeId} {d : Nat} (hT : TysOk P C) (R : RelX B G F [] env ts w) (hc : Cur env c) (hg : gOf c = true) (hl : ∀ l ∈ B.lents, l.1 ≠ d)
    (h : (opSem C c ⟨some d, .call ⟨.builtin .len, xs, Ts⟩, ty, pos, after, gd⟩).run c (some d) env K = some r) : OpOut P B env ts w ⟨some d, .call ⟨.builtin .len, xs, Ts⟩, ty, pos, after, gd⟩ K r := by
  simp only [opSem] at h
  split at h
  case h_2 => simp at h
  rename_i x T hxs hTs
  obtain ⟨rfl⟩ : xs = #[x] := by cases xs; simp_all
  obtain ⟨rfl⟩ : Ts = #[T] := by cases Ts; simp_all
  simp only [Rd.run_bind'] at h
  obtain ⟨t, ht, h⟩ := Rd.run_opt h
  obtain ⟨sl, h, ho⟩ := opnd_run R hc hg h
  obtain ⟨u, f, h, hv, _⟩ := peek_run R ho h
  obtain ⟨hut, hk⟩ := Rd.run_guard h
  simp only [decide_eq_true_eq] at hut
  obtain ⟨dt, ht1, ht2⟩ := (tyF (hT _ _ ht)).und
  have fin : ∀ n : Nat, (Builtin.len_ #[T] ty #[evalO ts x]).run P w = .ok (.int .i64 n) w → (Rd.set d .all (.val (.int .i64) .s (n : Int))).run c (some d) env K = some r →
      OpOut P B env ts w ⟨some d, .call ⟨.builtin .len, #[x], #[T]⟩, ty, pos, after, gd⟩ K r := by
    intro n hrun h
    obtain ⟨F', env', g1, g2, g3⟩ := set_plain (t := .int .i64) (m := .s) R hc hg hl (vrel_int .i64 n .s) h
    refine ⟨_, _, _, _, _, .inl ?_, g1, g2, g3⟩
    simp only [execOp, resolve, Array.map_singleton, Sem.run_bind, Sem.run_pure, Result.andThen_ok, invoke, builtin, hrun]
  obtain ⟨ut, um, ux⟩ := u
  simp only at hut
  subst hut
  cases ut <;> simp only at hk <;> try (simp at hk; done)
  · obtain ⟨s, hs, rfl⟩ := str_val hv
    cases dt <;> simp only [descChk] at ht2 <;> try (cases ht2; done)
    refine fin (bytesV s).length ?_ hk
    simp [Builtin.len_, hs, run_underlying ht1, goInt, bytesV]
  · rw [Rd.run_bind'] at hk
    obtain ⟨hm, hk⟩ := Rd.run_guard hk
    obtain ⟨A, cap, hA, _⟩ := list_val (by intro e; subst e; simp [Md.noHole] at hm) hv
    cases dt <;> simp only [descChk] at ht2 <;> try (cases ht2; done)
    refine fin ux.length ?_ hk
    simp [Builtin.len_, hA, run_underlying ht1, goInt]

theorem op_max {xs : Array Operand} {Ts : Array TypeId} {d : Nat} (R : RelX B G F [] env ts w) (hc : Cur env c) (hg : gOf c = true) (hl : ∀ l ∈ B.lents, l.1 ≠ d)
    (h : (opSem C c ⟨some d, .call ⟨.builtin .max, xs, Ts⟩, ty, pos, after, gd⟩).run c (some d) env K = some r) : OpOut P B env ts w ⟨some d, .call ⟨.builtin .max, xs, Ts⟩, ty, pos, after, gd⟩ K r := by
  simp only [opSem] at h
  split at h
  case h_2 => simp at h
  rename_i x y hxs
  obtain ⟨rfl⟩ : xs = #[x, y] := by cases xs; simp_all
  simp only [Rd.run_bind'] at h
  obtain ⟨sx, h, hox⟩ := opnd_run R hc hg h
  obtain ⟨sy, h, hoy⟩ := opnd_run R hc hg h
  obtain ⟨ta, xa, h, hva⟩ := plainV_run R hox h
  obtain ⟨tb, xb, hk, hvb⟩ := plainV_run R hoy h
  cases ta <;> cases tb <;> simp only at hk <;> try (simp at hk; done)
  rw [Rd.run_bind'] at hk
  obtain ⟨_, hk⟩ := Rd.run_guard hk
  obtain ⟨F', env', g1, g2, g3⟩ := set_plain R hc hg hl (vrel_int _ _ .s) hk
  refine ⟨_, _, _, _, _, .inl ?_, g1, g2, g3⟩
  simp only [execOp, resolve, List.map_toArray, List.map_cons, List.map_nil, Sem.run_bind, Sem.run_pure, Result.andThen_ok, invoke, builtin, int_val hva, int_val hvb, run_max_int2]
  congr 3
  by_cases hlt : (xa : Int) < xb
  · simp [hlt]
  · simp [hlt]

theorem op_min {xs : Array Operand} {Ts : Array TypeId} {d : Nat} (R : RelX B G F [] env ts w) (hc : Cur env c) (hg : gOf c = true) (hl : ∀ l ∈ B.lents, l.1 ≠ d)
    (h : (opSem C c ⟨some d, .call ⟨.builtin .min, xs, Ts⟩, ty, pos, after, gd⟩).run c (some d) env K = some r) : OpOut P B env ts w ⟨some d, .call ⟨.builtin .min, xs, Ts⟩, ty, pos, after, gd⟩ K r := by
  simp only [opSem] at h
  split at h
  case h_2 => simp at h
  rename_i x y hxs
  obtain ⟨rfl⟩ : xs = #[x, y] := by cases xs; simp_all
  simp only [Rd.run_bind'] at h
  obtain ⟨sx, h, hox⟩ := opnd_run R hc hg h
  obtain ⟨sy, h, hoy⟩ := opnd_run R hc hg h
  obtain ⟨ta, xa, h, hva⟩ := plainV_run R hox h
  obtain ⟨tb, xb, hk, hvb⟩ := plainV_run R hoy h
  cases ta <;> cases tb <;> simp only at hk <;> try (simp at hk; done)
  rw [Rd.run_bind'] at hk
  obtain ⟨_, hk⟩ := Rd.run_guard hk
  obtain ⟨F', env', g1, g2, g3⟩ := set_plain R hc hg hl (vrel_int _ _ .s) hk
  refine ⟨_, _, _, _, _, .inl ?_, g1, g2, g3⟩
  simp only [execOp, resolve, List.map_toArray, List.map_cons, List.map_nil, Sem.run_bind, Sem.run_pure, Result.andThen_ok, invoke, builtin, int_val hva, int_val hvb, run_min_int2]
  congr 3
  by_cases hlt : (xb : Int) < xa
  · simp [hlt]
  · simp [hlt]

theorem tupRel_get : ∀ (es : List TV) (vs : List Value) (f : List Res) (i : Nat) (e : TV), tupRel G w es vs f → es[i]? = some e →
    ∃ v pre g post, vs[i]? = some v ∧ f = pre ++ (g ++ post) ∧ vrel G w e.t e.m e.x v g ∧ ∀ e' g', vrel G w e'.t e'.m e'.x v g' → tupRel G w (es.set i e') vs (pre ++ (g' ++ post))
  | [], _, _, i, e, _, h => by simp at h
  | a :: es, [], _, _, _, h, _ => h.elim
  | a :: es, v :: vs, f, 0, e, h, he => by
    obtain ⟨f1, f2, h1, h2, rfl⟩ := h
    simp only [List.getElem?_cons_zero, Option.some.injEq] at he
    subst he
    exact ⟨v, [], f1, f2, rfl, rfl, h1, fun e' g' h' => ⟨g', f2, h', h2, rfl⟩⟩
  | a :: es, v :: vs, f, i + 1, e, h, he => by
    obtain ⟨f1, f2, h1, h2, rfl⟩ := h
    simp only [List.getElem?_cons_succ] at he
    obtain ⟨v', pre, g, post, g1, rfl, g3, g4⟩ := tupRel_get es vs f2 i e h2 he
    refine ⟨v', f1 ++ pre, g, post, by simpa using g1, by simp, g3, fun e' g' h' => ?_⟩
    exact ⟨f1, pre ++ (g' ++ post), h1, g4 e' g' h', by simp⟩

theorem op_extract {x : Operand} {i d : Nat} (R : RelX B G F [] env ts w) (hc : Cur env c) (hg : gOf c = true) (hl : ∀ l ∈ B.lents, l.1 ≠ d)
    (h : (opSem C c ⟨some d, .extract x i, ty, pos, after, gd⟩).run c (some d) env K = some r) : OpOut P B env ts w ⟨some d, .extract x i, ty, pos, after, gd⟩ K r := by
  simp only [opSem] at h
  cases hs : slotOf x with
  | none => simp [hs] at h
  | some s =>
    simp only [hs, Rd.run_bind', Rd.run_slot] at h
    split at h
    case h_2 => simp at h
    rename_i es he
    rw [Rd.run_bind'] at h
    obtain ⟨u, hu, h⟩ := Rd.run_opt h
    have hlt := Env.get_lt he (by simp)
    have hrel := R.slot s hlt
    rw [he] at hrel
    obtain ⟨vs, hvs, htup⟩ := hrel
    have hval : evalO ts x = ts.getD s undef := by cases x <;> simp only [slotOf] at hs <;> cases hs; rfl
    obtain ⟨v, pre, g, post, g1, g2, g3, g4⟩ := tupRel_get es _ _ i u htup hu
    have hex : (execOp (evalO ts) ⟨some d, .extract x i, ty, pos, after, gd⟩).run P w = .ok (.value v) w := by
      simp only [execOp, hval, hvs, Instr.extract]
      have : vs[i]? = some v := by rw [← Array.getElem?_toList]; exact g1
      rw [this]
      rfl
    split at h
    · rename_i hp
      have hm := plain_md hp
      obtain ⟨ut, um, ux⟩ := u
      simp only at hm
      subst hm
      have hf := rep_s_fp _ _ _ _ g3.1
      subst hf
      obtain ⟨F', env', k1, k2, k3⟩ := set_plain R hc hg hl g3 h
      exact ⟨_, _, _, _, _, .inl hex, k1, k2, k3⟩
    · simp only [Rd.run_bind'] at h
      obtain ⟨hh, h⟩ := Rd.run_guard h
      obtain ⟨hcn, h⟩ := Rd.run_moveU hg h
      have hsub : (pre ++ post).Sublist (F s) := by rw [g2]; exact List.Sublist.append (List.Sublist.refl _) (List.sublist_append_right _ _)
      have hsubg : g.Sublist (F s) := by rw [g2]; exact List.Sublist.trans (List.sublist_append_left _ _) (List.sublist_append_right _ _)
      have R1 := R.setSlot (d := s) (e := .tup (es.set i ⟨u.t, .h, u.x⟩)) (c := ts.getD s undef) (f := pre ++ post) hlt
        ⟨vs, hvs, by simpa using g4 ⟨u.t, .h, u.x⟩ [] ⟨rep_hole _ _ _ _ _ g3.1, g3.2⟩⟩ ((R.nd s).sub hsub) (fun j hj r hr q hq => R.ap s j (Ne.symm hj) r (hsub.subset hr) q hq) (fun q hq => R.ok s q (hsub.subset hq)) (fun _ _ h => by cases h) (fun _ _ _ _ _ _ h => by cases h)
      rw [set_getD_self] at R1
      have ndF := R.nd s
      rw [g2] at ndF
      obtain ⟨_, nd2, nd3⟩ := ND.append.1 ndF
      obtain ⟨ndg, _, nd4⟩ := ND.append.1 nd2
      have R2 := R1.hold (v := u) (c := v) (f := g) g3 ndg (fun j => ?_) (fun q hq => R.ok s q (hsubg.subset hq))
      · obtain ⟨F', env', k1, k2, k3⟩ := set_val R2 (hc.moved hcn) hg hl h
        exact ⟨_, _, _, _, _, .inl hex, k1, k2, k3.trans (Env.length_put _ _)⟩
      · by_cases hj : j = s
        · subst hj
          rw [upd_same]
          intro a ha q hq
          rcases List.mem_append.1 hq with hq | hq
          · exact (nd3 q hq a (by simp [ha])).symm
          · exact nd4 a ha q hq
        · rw [upd_other F _ hj]
          exact fun a ha q hq => R.ap s j (Ne.symm hj) a (hsubg.subset ha) q hq

end
end Go.VL

namespace Go.VL

theorem repA_append {α : Type} {R : α → List Value → List Res → Prop} : ∀ (xs ys : List α) (c1 c2 : List Value) (f1 f2 : List Res), repA R xs c1 f1 → repA R ys c2 f2 → repA R (xs ++ ys) (c1 ++ c2) (f1 ++ f2)
  | [], ys, c1, c2, f1, f2, h1, h2 => by obtain ⟨rfl, rfl⟩ := h1; exact h2
  | x :: xs, ys, c1, c2, f1, f2, h1, h2 => by
    obtain ⟨ca, cb, fa, fb, ha, hb, rfl, rfl⟩ := h1
    exact ⟨ca, cb ++ c2, fa, fb ++ f2, ha, repA_append xs ys cb c2 fb f2 hb h2, by simp, by simp⟩

theorem repA_len {α : Type} {R : α → List Value → List Res → Prop} {sz : Nat} (hlen : ∀ x c f, R x c f → c.length = sz) : ∀ (xs : List α) (cs : List Value) (f : List Res), repA R xs cs f → cs.length = xs.length * sz
  | [], cs, f, h => by obtain ⟨rfl, rfl⟩ := h; simp
  | x :: xs, cs, f, h => by
    obtain ⟨ca, cb, fa, fb, ha, hb, rfl, rfl⟩ := h
    simp [hlen _ _ _ ha, repA_len hlen xs cb fb hb, Nat.add_mul, Nat.add_comm]

theorem repA_one {α : Type} {R : α → List Value → List Res → Prop} (h1 : ∀ x c f, R x c f → ∀ v ∈ c, v.oneCell' = true) : ∀ (xs : List α) (cs : List Value) (f : List Res), repA R xs cs f → ∀ v ∈ cs, v.oneCell' = true
  | [], cs, f, h => by obtain ⟨rfl, rfl⟩ := h; simp
  | x :: xs, cs, f, h => by
    obtain ⟨ca, cb, fa, fb, ha, hb, rfl, rfl⟩ := h
    intro v hv
    rcases List.mem_append.1 hv with hv | hv
    · exact h1 _ _ _ ha v hv
    · exact repA_one h1 xs cb fb hb v hv

/-- cells that lie in a block, as elements there -/
theorem repL_of_cells {α : Type} {R : α → List Value → List Res → Prop} {w : World} {sz b : Nat} (hlen : ∀ x c f, R x c f → c.length = sz) : ∀ (xs : List α) (cs : List Value) (f : List Res) (o : Nat),
    repA R xs cs f → cellsAt w ⟨b, o, none⟩ cs → repL R w sz b o xs f
  | [], cs, f, o, h, _ => h.2
  | x :: xs, cs, f, o, h, hc => by
    obtain ⟨ca, cb, fa, fb, ha, hb, rfl, rfl⟩ := h
    obtain ⟨h1, h2⟩ := cellsAt_append.1 hc
    rw [hlen _ _ _ ha, add_mk] at h2
    exact ⟨ca, fa, fb, h1, ha, repL_of_cells hlen xs cb fb (o + sz) hb h2, rfl⟩

theorem cells_of_repL {α : Type} {R : α → List Value → List Res → Prop} {w : World} {sz b : Nat} (hlen : ∀ x c f, R x c f → c.length = sz) : ∀ (xs : List α) (f : List Res) (o : Nat),
    repL R w sz b o xs f → ∃ cs, repA R xs cs f ∧ cellsAt w ⟨b, o, none⟩ cs
  | [], f, o, h => ⟨[], ⟨rfl, h⟩, cellsAt_nil⟩
  | x :: xs, f, o, h => by
    obtain ⟨c, f1, f2, hc, hx, hl, rfl⟩ := h
    obtain ⟨cs, h1, h2⟩ := cells_of_repL hlen xs f2 (o + sz) hl
    exact ⟨c ++ cs, ⟨c, cs, f1, f2, hx, h1, rfl, rfl⟩, cellsAt_append.2 ⟨hc, by rw [hlen _ _ _ hx, add_mk]; exact h2⟩⟩

theorem repL_append {α : Type} {R : α → List Value → List Res → Prop} {w : World} {sz b : Nat} : ∀ (xs ys : List α) (f g : List Res) (o : Nat), repL R w sz b o xs f → repL R w sz b (o + xs.length * sz) ys g → repL R w sz b o (xs ++ ys) (f ++ g)
  | [], ys, f, g, o, h, h2 => by
    have : f = [] := h
    subst this
    simpa using h2
  | x :: xs, ys, f, g, o, h, h2 => by
    obtain ⟨c, f1, f2, hc, hx, hl, rfl⟩ := h
    refine ⟨c, f1, f2 ++ g, hc, hx, ?_, by simp⟩
    refine repL_append xs ys f2 g (o + sz) hl ?_
    rwa [show o + sz + xs.length * sz = o + (x :: xs).length * sz by simp [Nat.add_mul]; omega]

section
variable {P : Program} {C : Ctx} {B : Base} {G : Nat → Prop} {F : Nat → List Res} {H : List (TV × Value)} {env : Env} {ts : List Value} {w : World}
variable {ρ : Type} {c : List GI} {K : Unit → Env → Option ρ} {r : ρ} {ty : TypeId} {pos : String} {after : Array Edge} {gd : Option (Nat × Bool)}

/-- a list of plain elements: the cells that hold them -/
theorem list_cells {a : Ty} {m : Md} {xs : List a.den} {v : Value} {f : List Res} (hm : m.e.plain = true) (h : vrel G w (.list a) m xs v f) :
    ∃ cs A cap, v = .slice A xs.length cap ∧ repA (rep G w a .s) xs cs [] ∧ (xs = [] ∨ ∃ ad, A = some ad ∧ cellsAt w ad cs) := by
  have hlen : ∀ (x : a.den) c f, rep G w a .s x c f → c.length = a.sz := fun x c f h => rep_len _ _ _ _ _ h
  have hm' := plain_md hm
  obtain ⟨h, hv⟩ := h
  simp only [unpack, Ty.agg, if_false, Bool.false_eq_true] at h
  have shared : ∀ A cap, [v] = [Value.slice A xs.length cap] → (∀ i (h : i < xs.length), ∃ (ad : Addr) (c : List Value), A = some ad ∧ G ad.block ∧ cellsAt w (ad.add (i * a.sz)) c ∧ rep G w a .s xs[i] c []) →
      ∃ cs A cap, v = .slice A xs.length cap ∧ repA (rep G w a .s) xs cs [] ∧ (xs = [] ∨ ∃ ad, A = some ad ∧ cellsAt w ad cs) := by
    intro A cap hv hh
    simp only [List.cons.injEq, and_true] at hv
    cases A with
    | none =>
      cases xs with
      | nil => exact ⟨[], none, cap, hv, ⟨rfl, rfl⟩, .inl rfl⟩
      | cons x xs => obtain ⟨ad, c, h, _⟩ := hh 0 (by simp); cases h
    | some A =>
      have key : ∀ (ys : List a.den) (ad : Addr), (∀ i (h : i < ys.length), ∃ c, cellsAt w (ad.add (i * a.sz)) c ∧ rep G w a .s ys[i] c []) → ∃ cs, repA (rep G w a .s) ys cs [] ∧ cellsAt w ad cs := by
        intro ys
        induction ys with
        | nil => intro ad _; exact ⟨[], ⟨rfl, rfl⟩, cellsAt_nil⟩
        | cons y ys ih =>
          intro ad h
          obtain ⟨c0, hc0, hr0⟩ := h 0 (by simp)
          obtain ⟨cs, h1, h2⟩ := ih (ad.add a.sz) (fun i hi => by
            obtain ⟨c, hc, hr⟩ := h (i + 1) (by simpa using hi)
            refine ⟨c, ?_, by simpa using hr⟩
            rw [add_add]
            rwa [show a.sz + i * a.sz = (i + 1) * a.sz by rw [Nat.add_mul]; omega])
          refine ⟨c0 ++ cs, ⟨c0, cs, [], [], hr0, h1, rfl, rfl⟩, cellsAt_append.2 ⟨?_, by rw [hlen _ _ _ hr0]; exact h2⟩⟩
          simpa [Addr.add] using hc0
      obtain ⟨cs, h1, h2⟩ := key xs A (fun i hi => by
        obtain ⟨ad, c, ha, _, hc, hr⟩ := hh i hi
        cases ha
        exact ⟨c, hc, hr⟩)
      exact ⟨cs, some A, cap, hv, h1, .inr ⟨A, rfl, h2⟩⟩
  cases m with
  | h => simp [Md.e, Md.plain] at hm
  | s => obtain ⟨⟨A, cap, hv, _, hh⟩, _⟩ := h; exact shared A cap hv hh
  | p _ _ => obtain ⟨⟨A, cap, hv, _, hh⟩, _⟩ := h; exact shared A cap hv hh
  | o m =>
    simp only [Md.e] at hm'
    subst hm'
    rcases h with ⟨rfl, h, _⟩ | ⟨b, o, cap, fs, h, _, _, _, hr⟩
    · simp only [List.cons.injEq, and_true] at h
      exact ⟨[], none, 0, h, ⟨rfl, rfl⟩, .inl rfl⟩
    · simp only [List.cons.injEq, and_true] at h
      obtain ⟨cs, h1, h2⟩ := cells_of_repL hlen xs fs o hr
      have hfs : fs = [] := by
        have : ∀ (ys : List a.den) cs fs, repA (rep G w a .s) ys cs fs → fs = [] := by
          intro ys
          induction ys with
          | nil => intro cs fs h; exact h.2
          | cons y ys ih => intro cs fs h; obtain ⟨_, _, f1, f2, ha, hb, rfl, rfl⟩ := h; rw [rep_s_fp _ _ _ _ ha, ih _ _ hb]; rfl
        exact this _ _ _ h1
      subst hfs
      exact ⟨cs, _, cap, h, h1, .inr ⟨_, rfl, h2⟩⟩

theorem nextcap_le (need old : Nat) (h : old < need) (hn : need < 1073741824) : Builtin.nextslicecap need old ≤ 3000000000 := by
  unfold Builtin.nextslicecap
  split
  · omega
  · split
    · omega
    · have key : ∀ (k c : Nat), c ≤ 1500000000 → Builtin.growBy need k c ≤ 3000000000 := by
        intro k
        induction k with
        | zero => intro c hc; simp [Builtin.growBy]; omega
        | succ k ih =>
          intro c hc
          unfold Builtin.growBy
          split
          · omega
          · exact ih _ (by omega)
      exact key 4 old (by omega)

theorem run_firstCells {sz n : Nat} {A : Option Addr} {l cap : Nat} {cs : List Value} (hl : cs.length = n * sz) (h : cs = [] ∨ ∃ ad, A = some ad ∧ cellsAt w ad cs) :
    (Builtin.firstCells sz n (.slice A l cap)).run P w = .ok cs.toArray w := by
  cases A with
  | none =>
    rcases h with rfl | ⟨ad, h, _⟩
    · rfl
    · cases h
  | some ad =>
    simp only [Builtin.firstCells]
    rw [← hl]
    refine run_loadCells_list w ad cs ?_
    rcases h with rfl | ⟨ad', h, hc⟩
    · intro j v hj; simp at hj
    · cases h; exact hc

theorem list_cells_o {a : Ty} {m : Md} {xs : List a.den} {v : Value} {f : List Res} (h : vrel G w (.list a) (.o m) xs v f) :
    ∃ cs A cap fs, v = .slice A xs.length cap ∧ repA (rep G w a m) xs cs fs ∧ (xs = [] ∨ ∃ ad, A = some ad ∧ cellsAt w ad cs) ∧ fs.Sublist f := by
  obtain ⟨h, _⟩ := h
  simp only [unpack, Ty.agg, if_false, Bool.false_eq_true] at h
  rcases h with ⟨rfl, h, _⟩ | ⟨b, o, cap, fs, h, _, rfl, _, hr⟩
  · simp only [List.cons.injEq, and_true] at h
    exact ⟨[], none, 0, [], h, ⟨rfl, rfl⟩, .inl rfl, List.nil_sublist _⟩
  · simp only [List.cons.injEq, and_true] at h
    obtain ⟨cs, h1, h2⟩ := cells_of_repL (fun x c f h => rep_len _ _ _ _ _ h) xs fs o hr
    exact ⟨cs, _, cap, fs, h, h1, .inr ⟨_, rfl, h2⟩, List.sublist_cons_self _ _⟩

theorem append_core {T T' el el' : TypeId} {b' : Ty} {m : Md} {zs0 ys0 : List b'.den} {vx vy : Value} {csy : List Value} {Ay : Option Addr} {capy : Nat} {fsy : List Res} {env1 : Env} {F1 : Nat → List Res}
    (R1 : RelX B G F1 [(⟨.list b', .o m, zs0⟩, vx)] env1 ts w) (hvy1 : vy = .slice Ay ys0.length capy) (hry : repA (rep G w b' m) ys0 csy fsy) (hcy : ys0 = [] ∨ ∃ ad, Ay = some ad ∧ cellsAt w ad csy)
    (ndy : ND fsy) (apy : ∀ j, Apart fsy (F1 j)) (oky : ∀ r ∈ fsy, ¬ G r.blk ∧ r.blk < w.heap.size ∧ (B.w0.heap.size ≤ r.blk ∨ ∃ q ∈ B.R0, q.blk = r.blk ∧ q.lo ≤ r.lo ∧ r.hi ≤ q.hi))
    (hd1 : P.underlying T = some (.slice el)) (hd1' : P.underlying T' = some (.slice el')) (hEf : TyF P C el b') (hbd : zs0.length + ys0.length < 1073741824) :
    ∃ v w' F2, (Builtin.append_ #[T, T'] ty #[vx, vy]).run P w = .ok v w' ∧ RelX B G F2 [(⟨.list b', .o m, zs0 ++ ys0⟩, v)] env1 ts w' := by
  obtain ⟨inf, hinf, hby⟩ := hEf.bytes
  obtain ⟨zc, hzc, hzz⟩ := hEf.zero
  have hzrep : rep G w b' (zmd b') b'.zero zc [] := isZ_rep b' zc hzz
  have hzlen := rep_len _ _ _ _ _ hzrep
  have hzcells : (pack b' zc).cells.size = b'.sz := by
    have := congrArg List.length (pack_cells hzlen (rep_one _ _ _ _ _ hzrep))
    rw [Array.length_toList] at this
    rw [this, hzlen]
  -- the values
  have hvx : vrel G w (.list b') (.o m) zs0 vx (F1 (env1.length + 0)) := R1.held 0 (⟨.list b', .o m, zs0⟩, vx) (by simp)
  have lenR : ∀ {w : World} (x : b'.den) c f, rep G w b' m x c f → c.length = b'.sz := fun x c f h => rep_len _ _ _ _ _ h
  have oneR : ∀ (x : b'.den) c f, rep G w b' m x c f → ∀ v ∈ c, v.oneCell' = true := fun x c f h => rep_one _ _ _ _ _ h
  have hly := repA_len lenR ys0 csy fsy hry
  have hcy' : csy = [] ∨ ∃ ad, Ay = some ad ∧ cellsAt w ad csy := by
    rcases hcy with rfl | h
    · exact .inl (by obtain ⟨h, _⟩ := hry; exact h)
    · exact .inr h
  have hxr := hvx.1
  simp only [unpack, Ty.agg, if_false, Bool.false_eq_true] at hxr
  have oldx : ∃ csx Ax capx fsx, vx = .slice Ax zs0.length capx ∧ zs0.length ≤ capx ∧ repA (rep G w b' m) zs0 csx fsx ∧ (csx = [] ∨ ∃ ad, Ax = some ad ∧ cellsAt w ad csx) ∧ (∀ r ∈ fsx, r ∈ F1 (env1.length + 0)) ∧ ND fsx ∧
      ((Ax = none ∧ zs0 = [] ∧ capx = 0 ∧ F1 (env1.length + 0) = []) ∨ ∃ bb oo, Ax = some ⟨bb, oo, none⟩ ∧ F1 (env1.length + 0) = ⟨bb, oo, oo + capx * b'.sz⟩ :: fsx ∧ spanOk w bb (oo + capx * b'.sz) ∧ repL (rep G w b' m) w b'.sz bb oo zs0 fsx) := by
    rcases hxr with ⟨hz, hxv, hfp⟩ | ⟨bb, oo, cap, fs, hxv, hlc, hfp, hsp, hr⟩
    · simp only [List.cons.injEq, and_true] at hxv
      subst hz
      exact ⟨[], none, 0, [], hxv, Nat.le_refl _, ⟨rfl, rfl⟩, .inl rfl, fun _ h => by simp at h, List.Pairwise.nil, .inl ⟨rfl, rfl, rfl, hfp⟩⟩
    · simp only [List.cons.injEq, and_true] at hxv
      obtain ⟨csx, h1, h2⟩ := cells_of_repL lenR zs0 fs oo hr
      have nd := R1.nd (env1.length + 0)
      rw [hfp] at nd
      exact ⟨csx, _, cap, fs, hxv, hlc, h1, .inr ⟨_, rfl, h2⟩, fun r hr => by rw [hfp]; simp [hr], (List.pairwise_cons.1 nd).2, .inr ⟨bb, oo, rfl, hfp, hsp, hr⟩⟩
  obtain ⟨csx, Ax, capx, fsx, hxv, hlc, hrx, hcx, hfx, ndx, hown⟩ := oldx
  have hlx := repA_len lenR zs0 csx fsx hrx
  have hok0 := fun r hr => R1.ok _ r (hfx r hr)
  have ndxy : ND (fsx ++ fsy) := ND.append.2 ⟨ndx, ndy, fun a ha z hz => (apy _ z hz a (hfx a ha)).symm⟩
  have apxy : ∀ j, j ≠ env1.length + 0 → Apart (fsx ++ fsy) (F1 j) := fun j hj a ha z hz => by
    rcases List.mem_append.1 ha with ha | ha
    · exact R1.ap _ j (Ne.symm hj) a (hfx a ha) z hz
    · exact apy j a ha z hz
  have okxy : ∀ r ∈ fsx ++ fsy, ¬ G r.blk ∧ r.blk < w.heap.size ∧ (B.w0.heap.size ≤ r.blk ∨ ∃ q ∈ B.R0, q.blk = r.blk ∧ q.lo ≤ r.lo ∧ r.hi ≤ q.hi) := fun r hr => by
    rcases List.mem_append.1 hr with hr | hr
    · exact hok0 r hr
    · exact oky r hr
  by_cases hfit : zs0.length + ys0.length ≤ capx
  · -- there is room
    rcases hown with ⟨rfl, rfl, rfl, hF0⟩ | ⟨bb, oo, rfl, hfp, hsp, hrl⟩
    · have hy0 : ys0 = [] := List.eq_nil_of_length_eq_zero (by simpa using hfit)
      subst hy0
      obtain ⟨hcs0, _⟩ := hry
      subst hcs0
      refine ⟨_, w, F1, ?_, R1⟩
      rw [hxv, hvy1]
      simp [Builtin.append_, run_underlying hd1, run_underlying hd1', hEf.size, Builtin.lenOf, run_firstCells (P := P) (sz := b'.sz) (n := 0) (A := Ay) (l := 0) (cap := capy) (cs := []) (w := w) (by simp) (.inl rfl)]
    · obtain ⟨w', hst, htn, hcn⟩ := run_storeCells (P := P) csy w bb (oo + zs0.length * b'.sz) 0 (hsp.mono (by
        rw [hly]
        have : (zs0.length + ys0.length) * b'.sz ≤ capx * b'.sz := Nat.mul_le_mul_right _ hfit
        rw [Nat.add_mul] at this
        omega)) (repA_one oneR ys0 csy fsy hry)
      simp only [Nat.add_zero] at htn hcn
      have hr0 : (⟨bb, oo, oo + capx * b'.sz⟩ : Res) ∈ F1 (env1.length + 0) := by rw [hfp]; simp
      have hok0 := R1.ok _ _ hr0
      have hXG : ∀ p i, rng bb (oo + zs0.length * b'.sz) csy.length p i → ¬ G p := fun p i hx => by rw [hx.1]; exact hok0.1
      have hle : zs0.length * b'.sz + csy.length ≤ capx * b'.sz := by
        rw [hly, ← Nat.add_mul]; exact Nat.mul_le_mul_right _ hfit
      have ndF := R1.nd (env1.length + 0)
      rw [hfp] at ndF
      have hbx : ∀ r ∈ fsx, r.blk ≠ bb := fun r hr => ((List.pairwise_cons.1 ndF).1 r hr).symm
      have hby' : ∀ r ∈ fsy, r.blk ≠ bb := fun r hr => apy _ r hr _ hr0
      have R2 := (RelX.dropHeld (H := []) R1).world htn hXG (fun p i hx j => by
        unfold upd
        split
        · rintro ⟨q, hq, _⟩; simp at hq
        · rename_i hj
          rintro ⟨q, hq, e⟩
          exact R1.ap _ j (Ne.symm hj) _ hr0 q hq (by rw [e]; exact hx.1.symm)) (fun p i hp hx => by
            obtain ⟨e1, e2, e3⟩ := hx
            rcases hok0.2.2 with h | ⟨z, hz, z1, z2, z3⟩
            · simp at h; omega
            · exact ⟨z, hz, by rw [z1]; exact e1.symm, by simp at z2; omega, by simp at z3; omega⟩)
      have hnewl : repL (rep G w' b' m) w' b'.sz bb oo (zs0 ++ ys0) (fsx ++ fsy) := by
        refine repL_append zs0 ys0 fsx fsy oo ?_ ?_
        · obtain ⟨cz, hz1, hz2⟩ := cells_of_repL lenR zs0 fsx oo hrl
          refine repL_of_cells lenR zs0 cz fsx oo (repA_imp zs0 cz fsx (fun z _ c f hf hz => rep_frame htn.toSame (fun _ h => h) hXG _ _ _ _ _ (fun q hq i hx => hbx q (hf q hq) hx.1) hz) hz1) (htn.toSame.cellsAt hz2 (fun j hj hx => ?_))
          rw [add_mk] at hx
          have := hx.2.1
          have hlz := repA_len lenR zs0 cz fsx hz1
          simp at this
          omega
        · exact repL_of_cells lenR ys0 csy fsy _ (repA_imp ys0 csy fsy (fun z _ c f hf hz => rep_frame htn.toSame (fun _ h => h) hXG _ _ _ _ _ (fun q hq i hx => hby' q (hf q hq) hx.1) hz) hry) hcn
      have R3 := R2.hold (v := ⟨.list b', .o m, zs0 ++ ys0⟩) (c := .slice (some ⟨bb, oo, none⟩) (zs0.length + ys0.length) capx) (f := ⟨bb, oo, oo + capx * b'.sz⟩ :: (fsx ++ fsy))
        ⟨.inr ⟨bb, oo, capx, fsx ++ fsy, by simp [unpack, Ty.agg], by simpa using hfit, rfl, htn.toSame.span hsp, hnewl⟩, rfl⟩ (List.pairwise_cons.2 ⟨fun r hr => by
          rcases List.mem_append.1 hr with h | h
          · exact (hbx r h).symm
          · exact (hby' r h).symm, ndxy⟩) (fun j => ?_) (fun q hq => ?_)
      · refine ⟨_, w', _, ?_, R3⟩
        rw [hxv, hvy1]
        have hfc := run_firstCells (P := P) (sz := b'.sz) (n := ys0.length) (A := Ay) (l := ys0.length) (cap := capy) (cs := csy) (w := w) hly hcy'
        simp only [Builtin.append_, List.getElem?_toArray, List.getElem?_cons_zero, List.getElem?_cons_succ, Sem.run_bind, run_underlying hd1, run_underlying hd1', hEf.size, Builtin.lenOf, Result.andThen_ok, Sem.run_pure, Bool.false_eq_true, if_false]
        simp only [Bool.not_false, if_true, hfit, Sem.run_bind, hfc, Result.andThen_ok, add_mk]
        rw [hst]
        rfl
      · intro q hq z hz
        unfold upd at hz
        split at hz
        · simp at hz
        · rename_i hj
          rcases List.mem_cons.1 hq with rfl | hq
          · exact R1.ap _ j (Ne.symm hj) _ hr0 z hz
          · exact apxy j hj q hq z hz
      · rcases List.mem_cons.1 hq with rfl | hq
        · exact ⟨hok0.1, Nat.lt_of_lt_of_le hok0.2.1 htn.size, hok0.2.2⟩
        · exact ⟨(okxy q hq).1, Nat.lt_of_lt_of_le (okxy q hq).2.1 htn.size, (okxy q hq).2.2⟩
  · -- a new row
    have hgt : capx < zs0.length + ys0.length := Nat.lt_of_not_le hfit
    have hnc := nextcap_le (zs0.length + ys0.length) capx hgt hbd
    have hbytes : ¬ (Builtin.nextslicecap (zs0.length + ys0.length) capx * inf.bytes > 2 ^ 48) := by
      have : Builtin.nextslicecap (zs0.length + ys0.length) capx * inf.bytes ≤ 3000000000 * 65536 := Nat.mul_le_mul hnc hby
      omega
    have hmax : ¬ (((zs0.length + ys0.length : Nat) : Int) > IntKind.i64.max ∧ (False ∨ inf.bytes = 0)) := by
      rintro ⟨h1, _⟩
      rw [IntKind.max_i64] at h1
      omega
    let w1 := w.drew
    let ncap := Question.cut (.appendCap (zs0.length + ys0.length) capx el) (w.tape w.drawn (.appendCap (zs0.length + ys0.length) capx el))
    have hncap : zs0.length + ys0.length ≤ ncap := by simp [ncap, Question.cut]
    have ht1 : Turn (fun _ _ => False) w w1 := ⟨⟨Nat.le_refl _, fun b c e f h => ⟨c, h, rfl⟩, fun _ _ _ => rfl⟩, rfl, rfl, rfl, fun _ _ _ => rfl⟩
    let cells := csx.toArray ++ csy.toArray ++ Builtin.zeroCells (pack b' zc).cells (ncap - (zs0.length + ys0.length))
    have ht2 := alloc_turn w1 (.cells cells el)
    have htt : Turn (fun _ _ => False) w (w1.alloc (.cells cells el)) := ht1.trans ht2 (fun _ _ _ h => h) (fun _ _ _ h => h)
    have R2 := (RelX.dropHeld (H := []) R1).world htt (fun _ _ h => h.elim) (fun _ _ h => h.elim) (fun _ _ _ h => h.elim)
    have hcsz : cells.size = ncap * b'.sz := by
      simp only [cells, Array.size_append, List.size_toArray, Builtin.zeroCells, Array.size_map, Array.size_range, hzcells, hlx, hly]
      rw [← Nat.add_mul, ← Nat.add_mul]
      congr 1
      omega
    have hcl : cellsAt (w1.alloc (.cells cells el)) ⟨w.heap.size, 0, none⟩ (csx ++ csy) := by
      intro j v hj
      rw [add_mk, Nat.zero_add]
      show (w1.alloc (.cells cells el)).cell? ⟨w1.heap.size, j, none⟩ = some v
      rw [World.cell?_alloc_new, ← Array.getElem?_toList]
      simp only [cells, Array.toList_append]
      rw [List.getElem?_append_left (by have := (List.getElem?_eq_some_iff.1 hj).1; simpa using this)]
      exact hj
    have hrall : repA (rep G (w1.alloc (.cells cells el)) b' m) (zs0 ++ ys0) (csx ++ csy) (fsx ++ fsy) := by
      refine repA_imp _ _ _ (fun z _ c f _ hz => rep_frame htt.toSame (fun _ h => h) (fun _ _ h => h.elim) _ _ _ _ _ (fun _ _ _ h => h) hz) (repA_append zs0 ys0 csx csy fsx fsy hrx hry)
    have hnewl := repL_of_cells (w := w1.alloc (.cells cells el)) (b := w.heap.size) (fun x c f h => rep_len b' m x c f h) (zs0 ++ ys0) (csx ++ csy) (fsx ++ fsy) 0 hrall hcl
    have hbxy : ∀ r ∈ fsx ++ fsy, r.blk ≠ w.heap.size := fun r hr => by have := (okxy r hr).2.1; omega
    have R3 := R2.hold (v := ⟨.list b', .o m, zs0 ++ ys0⟩) (c := .slice (some ⟨w.heap.size, 0, none⟩) (zs0.length + ys0.length) ncap) (f := ⟨w.heap.size, 0, 0 + ncap * b'.sz⟩ :: (fsx ++ fsy))
      ⟨.inr ⟨w.heap.size, 0, ncap, fsx ++ fsy, by simp [unpack, Ty.agg], by simpa using hncap, rfl, ⟨cells, el, by show (w1.heap.push _)[w1.heap.size]? = _; simp, by omega⟩, hnewl⟩, rfl⟩ (List.pairwise_cons.2 ⟨fun r hr => (hbxy r hr).symm, ndxy⟩) (fun j => ?_) (fun q hq => ?_)
    · refine ⟨_, _, _, ?_, R3⟩
      rw [hxv, hvy1]
      have hfx := run_firstCells (P := P) (sz := b'.sz) (n := zs0.length) (A := Ax) (l := zs0.length) (cap := capx) (cs := csx) (w := w1) hlx (hcx.imp id (fun ⟨ad, h1, h2⟩ => ⟨ad, h1, ht1.toSame.cellsAt h2 (fun _ _ h => h)⟩))
      have hfy := run_firstCells (P := P) (sz := b'.sz) (n := ys0.length) (A := Ay) (l := ys0.length) (cap := capy) (cs := csy) (w := w1) hly (hcy'.imp id (fun ⟨ad, h1, h2⟩ => ⟨ad, h1, ht1.toSame.cellsAt h2 (fun _ _ h => h)⟩))
      simp only [Builtin.append_, List.getElem?_toArray, List.getElem?_cons_zero, List.getElem?_cons_succ, Sem.run_bind, run_underlying hd1, run_underlying hd1', hEf.size, Builtin.lenOf, Result.andThen_ok, Sem.run_pure, Bool.false_eq_true, if_false]
      simp only [Bool.not_false, if_true, hfit, if_false, Sem.run_bind, hinf, Result.andThen_ok, hmax, hbytes, run_choose, Question.forced, Bool.false_eq_true, World.drew_eq, run_askRoom]
      show ((Builtin.firstCells b'.sz zs0.length (.slice Ax zs0.length capx)).run P w1).andThen _ = _
      rw [hfx, Result.andThen_ok]
      show ((Builtin.firstCells b'.sz ys0.length (.slice Ay ys0.length capy)).run P w1).andThen _ = _
      rw [hfy, Result.andThen_ok, hzc]
      rfl
    · intro q hq z hz
      unfold upd at hz
      split at hz
      · simp at hz
      · rename_i hj
        rcases List.mem_cons.1 hq with rfl | hq
        · have := (R1.ok j z hz).2.1
          simp only [ne_eq]
          omega
        · exact apxy j hj q hq z hz
    · rcases List.mem_cons.1 hq with rfl | hq
      · refine ⟨fun hb => ?_, ?_, .inl R1.turn.size⟩
        · have := (R1.gl _ hb).1; simp at this
        · show w.heap.size < (w1.heap.push _).size
          simp [w1]
      · exact ⟨(okxy q hq).1, Nat.lt_of_lt_of_le (okxy q hq).2.1 htt.size, (okxy q hq).2.2⟩

theorem op_append {xs : Array Operand} {Ts : Array TypeId} {d : Nat} (hT : TysOk P C) (R : RelX B G F [] env ts w) (hc : Cur env c) (hg : gOf c = true) (hl : ∀ l ∈ B.lents, l.1 ≠ d)
    (h : (opSem C c ⟨some d, .call ⟨.builtin .append, xs, Ts⟩, ty, pos, after, gd⟩).run c (some d) env K = some r) : OpOut P B env ts w ⟨some d, .call ⟨.builtin .append, xs, Ts⟩, ty, pos, after, gd⟩ K r := by
  simp only [opSem] at h
  split at h
  case h_2 => simp at h
  rename_i x y T T' hxs hTs
  obtain ⟨rfl⟩ : xs = #[x, y] := by cases xs; simp_all
  obtain ⟨rfl⟩ : Ts = #[T, T'] := by cases Ts; simp_all
  split at h
  case h_2 => simp at h
  rename_i a a' hTa hTa'
  simp only [Rd.run_bind'] at h
  obtain ⟨sx, h, hox⟩ := opnd_run R hc hg h
  obtain ⟨u, GF1, F1, env1, h, hGF1, R1, hlen1, hce⟩ := take_run hg R hox h
  obtain ⟨ut, um, ux⟩ := u
  simp only [coe, Rd.run_bind'] at h
  have h1 := Rd.run_check hg h
  clear h
  obtain ⟨hco, h⟩ := h1
  simp only [Rd.run_pure] at h
  obtain ⟨G1, F1, hG1, R1⟩ := RelX.coe R1 hco
  simp only at R1
  split at h
  case h_2 => simp at h
  rename_i b m0 zs0 heq
  obtain ⟨rfl, rfl, hxx⟩ : ut = .list b ∧ .o (C.em a) = m0 ∧ HEq ux zs0 := by simpa using heq
  cases hxx
  have hc1 := hc.moved hce
  simp only [Rd.run_bind'] at h
  obtain ⟨sy, h, hoy⟩ := opnd_run R1 hc1 hg h
  -- the types
  have hTf := tyF (hT _ _ hTa)
  obtain ⟨dsc, hd1, hd2⟩ := hTf.und
  cases dsc <;> simp only [descChk] at hd2 <;> try (cases hd2; done)
  rename_i el
  simp only [Bool.and_eq_true, bne_iff_ne] at hd2
  obtain ⟨hd3, hd4⟩ := hd2
  have hel : C.ty el = some a := by
    split at hd3
    · rename_i a' ha; simp only [decide_eq_true_eq] at hd3; rw [ha, hd3]
    · cases hd3
  have hEf := tyF (hT _ _ hel)
  obtain ⟨dsc', hd1', hd2'⟩ := (tyF (hT _ _ hTa')).und
  cases dsc' <;> simp only [descChk] at hd2' <;> try (cases hd2'; done)
  have fin : ∀ {G2 : Nat → Prop} {env2 : Env} {zs : List a.den} (v : Value) (w' : World) (F2 : Nat → List Res), Cur env2 c → env2.length = env1.length → (Builtin.append_ #[T, T'] ty #[evalO ts x, evalO ts y]).run P w = .ok v w' →
      RelX B G2 F2 [(⟨.list a, .o (C.em a), zs⟩, v)] env2 ts w' → (Rd.set d .all (.val (.list a) (.o (C.em a)) zs)).run c (some d) env2 K = some r → OpOut P B env ts w ⟨some d, .call ⟨.builtin .append, #[x, y], #[T, T']⟩, ty, pos, after, gd⟩ K r := by
    intro G2 env2 zs v w' F2 hc2 hl2 hrun R2 hk
    obtain ⟨F', env', k1, k2, k3⟩ := set_val R2 hc2 hg hl hk
    refine ⟨_, _, _, _, _, .inl ?_, k1, k2, k3.trans (hl2.trans hlen1)⟩
    simp only [execOp, resolve, List.map_toArray, List.map_cons, List.map_nil, Sem.run_bind, Sem.run_pure, Result.andThen_ok, invoke, builtin, hrun]
  split at h
  · -- plain elements: they are copied
    rename_i hpl
    have hem := plain_md hpl
    obtain ⟨u2, f2, h, hvy, _⟩ := peek_run R1 hoy h
    split at h
    case h_2 => simp at h
    rename_i b' m' ys0
    rw [Rd.run_bind'] at h
    obtain ⟨hgd, h⟩ := Rd.run_guard h
    simp only [Bool.and_eq_true, decide_eq_true_eq] at hgd
    obtain ⟨hba, hmp⟩ := hgd
    rw [Rd.run_bind'] at h
    obtain ⟨ys, hys, h⟩ := Rd.run_opt h
    rw [Rd.run_bind'] at h
    obtain ⟨hbd, hk⟩ := Rd.run_check hg h
    simp only [decide_eq_true_eq] at hbd
    subst hba
    obtain ⟨e, hye⟩ := castV_eq hys
    simp only [Ty.list.injEq] at e
    subst e
    have hye : ys0 = ys := hye
    subst hye
    obtain ⟨csy, Ay, capy, hvy1, hry, hcy⟩ := list_cells hmp hvy
    rw [hem] at R1 hk
    obtain ⟨v, w', F2, hrun, R2⟩ := append_core (ty := ty) (P := P) (C := C) (T := T) (T' := T') (m := .s) R1 hvy1 hry hcy List.Pairwise.nil (fun _ _ h => by simp at h) (fun _ h => by simp at h) hd1 hd1' hEf hbd
    rw [← hem] at R2 hk
    exact fin v w' F2 hc1 rfl hrun R2 hk
  · -- owned elements: they are moved
    rename_i hpl
    simp only [Rd.run_bind'] at h
    obtain ⟨u2, GF2, F2, env2, h, hGF2, R2, hlen2, hce2⟩ := take_run hg R1 hoy h
    obtain ⟨vt, vm, vx⟩ := u2
    have h1 := Rd.run_check hg h
    clear h
    obtain ⟨hco2, h⟩ := h1
    simp only [Rd.run_pure] at h
    obtain ⟨G3, F3, hG3, R3⟩ := RelX.coe R2 hco2
    simp only at R3
    split at h
    case h_2 => simp at h
    rename_i b' m' ys0 heq2
    obtain ⟨rfl, rfl, hyy⟩ : vt = .list b' ∧ .o (C.em a) = m' ∧ HEq vx ys0 := by simpa using heq2
    cases hyy
    rw [Rd.run_bind'] at h
    obtain ⟨hgd, h⟩ := Rd.run_guard h
    simp only [Bool.and_eq_true, decide_eq_true_eq] at hgd
    obtain ⟨hba, _⟩ := hgd
    rw [Rd.run_bind'] at h
    obtain ⟨ys, hys, h⟩ := Rd.run_opt h
    rw [Rd.run_bind'] at h
    obtain ⟨hbd, hk⟩ := Rd.run_check hg h
    simp only [decide_eq_true_eq] at hbd
    subst hba
    obtain ⟨e, hye⟩ := castV_eq hys
    simp only [Ty.list.injEq] at e
    subst e
    have hye : _ = ys := hye
    subst hye
    have hvy : vrel G3 w (.list b') (.o (C.em b')) ys0 (evalO ts y) (F3 (env2.length + 1)) := R3.held 1 (⟨.list b', .o (C.em b'), ys0⟩, evalO ts y) (by simp)
    obtain ⟨csy, Ay, capy, fsy, hvy1, hry, hcy, hsub⟩ := list_cells_o hvy
    have R4 := RelX.dropHeld (H := [(⟨.list b', .o (C.em b'), zs0⟩, evalO ts x)]) R3
    obtain ⟨v, w', F4, hrun, R5⟩ := append_core (ty := ty) (P := P) (C := C) (T := T) (T' := T') R4 hvy1 hry hcy ((R3.nd _).sub hsub) (fun j a ha z hz => by
      unfold upd at hz
      split at hz
      · simp at hz
      · rename_i hj
        exact R3.ap _ j (Ne.symm hj) a (hsub.subset ha) z hz) (fun r hr => R3.ok _ r (hsub.subset hr)) hd1 hd1' hEf hbd
    exact fin v w' F4 (hc1.moved hce2) hlen2 hrun R5 hk

end
end Go.VL

namespace Go.VL

theorem Turn.world_none (w : World) : Turn (fun _ _ => False) w w := Turn.refl _ w

section
variable {P : Program} {C : Ctx} {B : Base} {G : Nat → Prop} {F : Nat → List Res} {H : List (TV × Value)} {env : Env} {ts : List Value} {w : World}
variable {ρ : Type} {c : List GI} {r : ρ} {ty : TypeId} {pos : String} {after : Array Edge} {gd : Option (Nat × Bool)}

theorem coe_run {v : TV} {m : Md} {d : Option Nat} {K : TV → Env → Option ρ} (hg : gOf c = true) (h : (coe v m).run c d env K = some r) : coeOk v.t v.m m v.x = true ∧ K ⟨v.t, m, v.x⟩ env = some r := by
  simp only [coe, Rd.run_bind'] at h
  obtain ⟨h1, h⟩ := Rd.run_check hg h
  exact ⟨h1, h⟩

/-- the elements of a literal list: each is shared from now on -/
theorem buildL_run {a : Ty} {d : Option Nat} (hg : gOf c = true) : ∀ (ps : List (Nat × Operand)) (n : Nat) (env : Env) (G : Nat → Prop) (F : Nat → List Res) (K : List a.den → Env → Option ρ),
    RelX B G F H env ts w → Cur env c → (buildL c a .s n ps).run c d env K = some r →
    ∃ G' F' env' xs cs, (∀ b, G b → G' b) ∧ K xs env' = some r ∧ RelX B G' F' H env' ts w ∧ env'.length = env.length ∧ Kept c env env' ∧ xs.length = ps.length ∧
      repA (rep G' w a .s) xs cs [] ∧ cs = (ps.map fun p => unpack a (evalO ts p.2)).flatten ∧ (∀ p ∈ ps, pack a (unpack a (evalO ts p.2)) = evalO ts p.2 ∧ (unpack a (evalO ts p.2)).length = a.sz ∧ ∀ v ∈ unpack a (evalO ts p.2), v.oneCell' = true) ∧
      ∀ i p, ps[i]? = some p → p.1 = n + i
  | [], n, env, G, F, K, R, hc, h => by
    simp only [buildL, Rd.run_pure] at h
    exact ⟨G, F, env, [], [], fun _ h => h, h, R, rfl, Kept.refl _ _, rfl, ⟨rfl, rfl⟩, rfl, by simp, by simp⟩
  | (i, o) :: ps, n, env, G, F, K, R, hc, h => by
    simp only [buildL, Rd.run_bind'] at h
    obtain ⟨hin, h⟩ := Rd.run_guard h
    simp only [beq_iff_eq] at hin
    obtain ⟨sl, h, ho⟩ := opnd_run R hc hg h
    obtain ⟨u, GF1, F1, env1, h, hGF1, R1, hlen1, hce⟩ := take_run hg R ho h
    obtain ⟨hco, h⟩ := coe_run hg h
    obtain ⟨x, hx, h⟩ := Rd.run_opt h
    obtain ⟨G2, F2, hG2, R2⟩ := RelX.coe R1 hco
    obtain ⟨ut, um, ux⟩ := u
    obtain ⟨e, hxe⟩ := castV_eq hx
    simp only at e hxe
    subst e
    have hxe : ux = x := hxe
    subst hxe
    have hv := R2.held H.length (⟨ut, .s, ux⟩, evalO ts o) (by simp)
    have hf := rep_s_fp _ _ _ _ hv.1
    have R3 := R2.dropHeld
    obtain ⟨G', F', env', xs, cs, hG', hK, R', hlen, hce', hxl, hrep, hcs, hpk, hidx⟩ := buildL_run hg ps (n + 1) env1 G2 _ _ R3 (hc.moved hce) h
    simp only [Rd.run_pure] at hK
    rw [hf] at hv
    have hv' : vrel G' w ut .s ux (evalO ts o) [] := vrel_frame (X := fun _ _ => False) (Same.refl _ w) hG' (fun _ _ h => h.elim) (fun _ h => by simp at h) hv
    refine ⟨G', F', env', ux :: xs, unpack ut (evalO ts o) ++ cs, fun b h => hG' b (hG2 b (hGF1 b h)), hK, R', hlen.trans hlen1, ?_, by simp [hxl], ⟨_, _, [], [], hv'.1, hrep, rfl, rfl⟩, by simp [hcs], ?_, ?_⟩
    · exact hce.trans hce'
    · intro p hp
      rcases List.mem_cons.1 hp with rfl | hp
      · exact ⟨hv.2, rep_len _ _ _ _ _ hv.1, rep_one _ _ _ _ _ hv.1⟩
      · exact hpk p hp
    · intro j p hj
      cases j with
      | zero => simp only [List.getElem?_cons_zero, Option.some.injEq] at hj; subst hj; exact hin
      | succ j =>
        simp only [List.getElem?_cons_succ] at hj
        have := hidx j p hj
        omega

/-- the elements of a literal list, each under the list's mark -/
theorem buildLO_run {a : Ty} {m : Md} {d : Option Nat} (hg : gOf c = true) : ∀ (ps : List (Nat × Operand)) (n : Nat) (env : Env) (G : Nat → Prop) (F : Nat → List Res) (H : List (TV × Value)) (K : List a.den → Env → Option ρ),
    RelX B G F H env ts w → Cur env c → (buildL c a m n ps).run c d env K = some r →
    ∃ G' F' env' xs, (∀ b, G b → G' b) ∧ K xs env' = some r ∧ RelX B G' F' (H ++ (xs.zip (ps.map fun p => evalO ts p.2)).map fun z => ((⟨a, m, z.1⟩ : TV), z.2)) env' ts w ∧ env'.length = env.length ∧ Kept c env env' ∧ xs.length = ps.length ∧
      ∀ i p, ps[i]? = some p → p.1 = n + i
  | [], n, env, G, F, H, K, R, hc, h => by
    simp only [buildL, Rd.run_pure] at h
    exact ⟨G, F, env, [], fun _ h => h, h, by simpa using R, rfl, Kept.refl _ _, rfl, by simp⟩
  | (i, o) :: ps, n, env, G, F, H, K, R, hc, h => by
    simp only [buildL, Rd.run_bind'] at h
    obtain ⟨hin, h⟩ := Rd.run_guard h
    simp only [beq_iff_eq] at hin
    obtain ⟨sl, h, ho⟩ := opnd_run R hc hg h
    obtain ⟨u, GF1, F1, env1, h, hGF1, R1, hlen1, hce⟩ := take_run hg R ho h
    obtain ⟨hco, h⟩ := coe_run hg h
    obtain ⟨x, hx, h⟩ := Rd.run_opt h
    obtain ⟨G2, F2, hG2, R2⟩ := RelX.coe R1 hco
    obtain ⟨ut, um, ux⟩ := u
    obtain ⟨e, hxe⟩ := castV_eq hx
    simp only at e hxe
    subst e
    have hxe : ux = x := hxe
    subst hxe
    obtain ⟨G', F', env', xs, hG', hK, R', hlen, hce', hxl, hidx⟩ := buildLO_run hg ps (n + 1) env1 G2 _ _ _ R2 (hc.moved hce) h
    simp only [Rd.run_pure] at hK
    refine ⟨G', F', env', ux :: xs, fun b h => hG' b (hG2 b (hGF1 b h)), hK, by simpa using R', hlen.trans hlen1, hce.trans hce', by simp [hxl], ?_⟩
    intro j p hj
    cases j with
    | zero => simp only [List.getElem?_cons_zero, Option.some.injEq] at hj; subst hj; exact hin
    | succ j =>
      simp only [List.getElem?_cons_succ] at hj
      have := hidx j p hj
      omega

def flatF (F : Nat → List Res) : Nat → Nat → List Res
  | 0, _ => []
  | k + 1, n => F n ++ flatF F k (n + 1)

theorem mem_flatF {F : Nat → List Res} {z : Res} : ∀ (k n : Nat), z ∈ flatF F k n → ∃ j, n ≤ j ∧ z ∈ F j
  | 0, _, h => by simp [flatF] at h
  | k + 1, n, h => by
    rcases List.mem_append.1 h with h | h
    · exact ⟨n, Nat.le_refl _, h⟩
    · obtain ⟨j, h1, h2⟩ := mem_flatF k (n + 1) h
      exact ⟨j, by omega, h2⟩

theorem flatF_nd (nd : ∀ i, ND (F i)) (ap : ∀ i j, i ≠ j → Apart (F i) (F j)) : ∀ (k n : Nat), ND (flatF F k n)
  | 0, _ => List.Pairwise.nil
  | k + 1, n => ND.append.2 ⟨nd n, flatF_nd nd ap k (n + 1), fun x hx y hy => by
      obtain ⟨j, h1, h2⟩ := mem_flatF k (n + 1) hy
      exact ap n j (by omega) x hx y h2⟩


/-- what is held, as elements -/
theorem held_repA {a : Ty} {m : Md} : ∀ (xs : List a.den) (vals : List Value) (k : Nat), xs.length = vals.length → (∀ i x v, xs[i]? = some x → vals[i]? = some v → vrel G w a m x v (F (k + i))) →
    repA (rep G w a m) xs (vals.map (unpack a)).flatten (flatF F xs.length k) ∧ ∀ v ∈ vals, pack a (unpack a v) = v ∧ (unpack a v).length = a.sz ∧ ∀ u ∈ unpack a v, u.oneCell' = true
  | [], [], _, _, _ => ⟨⟨rfl, rfl⟩, by simp⟩
  | x :: xs, v :: vals, k, hl, h => by
    have h0 := h 0 x v rfl rfl
    obtain ⟨h1, h2⟩ := held_repA xs vals (k + 1) (by simpa using hl) (fun i x v hx hv => by
      have := h (i + 1) x v (by simpa using hx) (by simpa using hv)
      rwa [show k + (i + 1) = k + 1 + i by omega] at this)
    refine ⟨⟨_, _, _, _, h0.1, h1, by simp, rfl⟩, fun u hu => ?_⟩
    rcases List.mem_cons.1 hu with rfl | hu
    · exact ⟨h0.2, rep_len _ _ _ _ _ h0.1, rep_one _ _ _ _ _ h0.1⟩
    · exact h2 u hu
  | [], _ :: _, _, h, _ => by simp at h
  | _ :: _, [], _, h, _ => by simp at h

theorem RelX.dropAll {L : List (TV × Value)} (R : RelX B G F (H ++ L) env ts w) : RelX B G (fun i => if i < env.length + H.length then F i else []) H env ts w := by
  refine { len := R.len, slot := fun i hi => ?_, held := fun k h' hk => ?_, out := fun i hi => ?_, nd := fun i => ?_, ap := fun i j hij => ?_, ok := fun i r hr => ?_, g0 := R.g0, gl := R.gl, turn := R.turn, chain := R.chain, lent := R.lent }
  · simp only [show i < env.length + H.length by omega, if_true]; exact R.slot i hi
  · have hkl : k < H.length := (List.getElem?_eq_some_iff.1 hk).1
    simp only [show env.length + k < env.length + H.length by omega, if_true]
    exact R.held k h' (by rw [List.getElem?_append_left hkl]; exact hk)
  · simp only [show ¬ i < env.length + H.length by omega, if_false]
  · split
    · exact R.nd i
    · exact List.Pairwise.nil
  · split <;> split
    · exact R.ap i j hij
    · intro r _ q hq; simp at hq
    · intro r hr; simp at hr
    · intro r hr; simp at hr
  · split at hr
    · exact R.ok i r hr
    · simp at hr

theorem foldl_set : ∀ (cs : List Value) (A : Array Value) (off k : Nat) (pre mid post : List Value), A.toList = pre ++ (mid ++ post) → pre.length = off + k → mid.length = cs.length →
    ((cs.zipIdx k).foldl (fun a (p : Value × Nat) => a.setIfInBounds (off + p.2) p.1) A).toList = pre ++ (cs ++ post)
  | [], A, off, k, pre, mid, post, h, _, hl => by
    have : mid = [] := List.eq_nil_of_length_eq_zero hl
    subst this
    simpa using h
  | v :: cs, A, off, k, pre, [], post, _, _, hl => by simp at hl
  | v :: cs, A, off, k, pre, m :: mid, post, h, hp, hl => by
    simp only [List.zipIdx_cons, List.foldl_cons]
    have := foldl_set cs (A.setIfInBounds (off + k) v) off (k + 1) (pre ++ [v]) mid post (by
      rw [Array.toList_setIfInBounds, h, ← hp]
      simp) (by simp; omega) (by simpa using hl)
    simpa using this

theorem fill_step {place : Nat → Option (Nat × Nat)} {A : Array Value} {i off size : Nat} {v : Value} {rest : List (Nat × Value)} {pre mid post : List Value} (hp : place i = some (off, size))
    (hA : A.toList = pre ++ (mid ++ post)) (ho : pre.length = off) (hm : mid.length = size) (hv : v.cells.size = size) :
    ∃ A', Instr.fill place A ((i, v) :: rest) = Instr.fill place A' rest ∧ A'.toList = pre ++ (v.cells.toList ++ post) := by
  have hsz : A.size = pre.length + (mid.length + post.length) := by rw [← Array.length_toList, hA]; simp
  refine ⟨v.cells.zipIdx.foldl (fun cs (p : Value × Nat) => cs.setIfInBounds (off + p.2) p.1) A, ?_, ?_⟩
  · simp only [Instr.fill, hp]
    rw [if_neg]
    simp only [Bool.or_eq_true, decide_eq_true_eq, not_or]
    exact ⟨by simp [hv], by omega⟩
  · rw [← Array.foldl_toList, Array.toList_zipIdx]
    exact foldl_set v.cells.toList A off 0 pre mid post hA (by omega) (hm.trans (hv.symm.trans Array.length_toList.symm))

variable {K : Unit → Env → Option ρ}

/-- elements of a literal, filled in one behind the other -/
theorem fill_seq {a : Ty} {size : Nat} : ∀ (ps : List (Nat × Operand)) (n : Nat) (A : Array Value) (pre mid post : List Value), A.toList = pre ++ (mid ++ post) → pre.length = n * a.sz → mid.length = ps.length * a.sz → size = a.sz →
    (∀ p ∈ ps, pack a (unpack a (evalO ts p.2)) = evalO ts p.2 ∧ (unpack a (evalO ts p.2)).length = a.sz ∧ ∀ v ∈ unpack a (evalO ts p.2), v.oneCell' = true) → (∀ i p, ps[i]? = some p → p.1 = n + i) →
    ∃ A', Instr.fill (fun i => some (i * size, size)) A (ps.map fun p => (p.1, evalO ts p.2)) = some A' ∧ A'.toList = pre ++ ((ps.map fun p => unpack a (evalO ts p.2)).flatten ++ post)
  | [], n, A, pre, mid, post, hA, _, hm, _, _, _ => by
    have : mid = [] := List.eq_nil_of_length_eq_zero (by simpa using hm)
    subst this
    exact ⟨A, rfl, by simpa using hA⟩
  | (i, o) :: ps, n, A, pre, mid, post, hA, hp, hm, hs, hpk, hidx => by
    subst hs
    obtain ⟨h1, h2, h3⟩ := hpk (i, o) (by simp)
    have hi : i = n := by have := hidx 0 (i, o) rfl; simpa using this
    subst hi
    have hvc : (evalO ts o).cells.toList = unpack a (evalO ts o) := by
      have := pack_cells h2 h3
      rw [h1] at this
      exact this
    have hvs : (evalO ts o).cells.size = a.sz := by rw [← Array.length_toList, hvc, h2]
    have hmid : mid = mid.take a.sz ++ mid.drop a.sz := (List.take_append_drop _ _).symm
    have hml : (mid.take a.sz).length = a.sz := by
      simp only [List.length_take, hm, List.length_cons, Nat.add_mul, Nat.one_mul]
      omega
    obtain ⟨A1, hf, hA1⟩ := fill_step (place := fun i => some (i * a.sz, a.sz)) (rest := ps.map fun p => (p.1, evalO ts p.2)) (i := i) (A := A) (pre := pre) (mid := mid.take a.sz) (post := mid.drop a.sz ++ post) rfl
      (by rw [hA]; simp [← List.append_assoc]) hp hml hvs
    obtain ⟨A', hf', hA'⟩ := fill_seq (size := a.sz) ps (i + 1) A1 (pre ++ unpack a (evalO ts o)) (mid.drop a.sz) post (by rw [hA1, hvc]; simp) (by simp [hp, h2, Nat.add_mul]) (by
      simp only [List.length_drop, hm, List.length_cons, Nat.add_mul, Nat.one_mul]; omega) rfl (fun p hp => hpk p (by simp [hp])) (fun j p hj => by
        have := hidx (j + 1) p (by simpa using hj)
        omega)
    refine ⟨A', ?_, by rw [hA']; simp⟩
    simp only [List.map_cons]
    rw [hf, hf']

theorem op_buildSlice {T : TypeId} {n : Nat} {ps : Array (Nat × Operand)} {d : Nat} (hT : TysOk P C) (R : RelX B G F [] env ts w) (hc : Cur env c) (hg : gOf c = true) (hl : ∀ l ∈ B.lents, l.1 ≠ d)
    (h : (opSem C c ⟨some d, .buildSlice T n ps, ty, pos, after, gd⟩).run c (some d) env K = some r) : OpOut P B env ts w ⟨some d, .buildSlice T n ps, ty, pos, after, gd⟩ K r := by
  simp only [opSem] at h
  split at h
  case h_2 => simp at h
  rename_i a hTa
  rw [Rd.run_bind'] at h
  obtain ⟨hn, h⟩ := Rd.run_guard h
  simp only [Bool.and_eq_true, beq_iff_eq, decide_eq_true_eq] at hn
  obtain ⟨hn, hbig⟩ := hn
  rw [Rd.run_bind'] at h
  obtain ⟨G', F', env', xs, hG', hK, R', hlen, hce, hxl, hidx⟩ := buildLO_run hg ps.toList 0 env G F [] _ R hc h
  simp only [List.nil_append] at R'
  have hheld : ∀ i x v, xs[i]? = some x → (ps.toList.map fun p => evalO ts p.2)[i]? = some v → vrel G' w a (C.em a) x v (F' (env'.length + i)) := fun i x v hx hv => by
    refine R'.held i ((⟨a, C.em a, x⟩ : TV), v) ?_
    rw [List.getElem?_map, (List.getElem?_zip_eq_some (z := (x, v))).2 ⟨hx, hv⟩]
    rfl
  obtain ⟨hrep, hpk0⟩ := held_repA xs _ env'.length (by simpa using hxl) hheld
  obtain ⟨cs, hcs⟩ : ∃ cs, cs = (ps.toList.map fun p => unpack a (evalO ts p.2)).flatten := ⟨_, rfl⟩
  obtain ⟨fs, hfs⟩ : ∃ fs, fs = flatF F' xs.length env'.length := ⟨_, rfl⟩
  have hrep : repA (rep G' w a (C.em a)) xs cs fs := by
    rw [hcs, hfs]
    simpa [List.map_map, Function.comp_def] using hrep
  have hpk : ∀ p ∈ ps.toList, pack a (unpack a (evalO ts p.2)) = evalO ts p.2 ∧ (unpack a (evalO ts p.2)).length = a.sz ∧ ∀ v ∈ unpack a (evalO ts p.2), v.oneCell' = true := fun p hp => hpk0 _ (List.mem_map.2 ⟨p, hp, rfl⟩)
  have hfsj : ∀ r ∈ fs, ∃ j, env'.length ≤ j ∧ r ∈ F' j := fun r hr => mem_flatF _ _ (hfs ▸ hr)
  have ndfs : ND fs := by rw [hfs]; exact flatF_nd R'.nd R'.ap _ _
  have hTf := tyF (hT _ _ hTa)
  obtain ⟨dsc, hd1, hd2⟩ := hTf.und
  cases dsc <;> simp only [descChk] at hd2 <;> try (cases hd2; done)
  rename_i el
  simp only [Bool.and_eq_true, bne_iff_ne] at hd2
  obtain ⟨hd3, hd4⟩ := hd2
  have hel : C.ty el = some a := by
    split at hd3
    · rename_i a' ha; simp only [decide_eq_true_eq] at hd3; rw [ha, hd3]
    · cases hd3
  have hEf := tyF (hT _ _ hel)
  obtain ⟨zc, hzc, hzz⟩ := hEf.zero
  have lenR : ∀ {w : World} (x : a.den) c f, rep G' w a (C.em a) x c f → c.length = a.sz := fun x c f h => rep_len _ _ _ _ _ h
  have hlc := repA_len lenR xs cs fs hrep
  have hps : ps.toList.length = n := by rw [Array.length_toList]; exact hn
  -- the zero cells are all filled
  let A' : Array Value := cs.toArray
  have hfill : ∀ z : Array Value, Instr.fill (fun i => some (i * a.sz, a.sz)) ((Array.range (n * a.sz)).map (z[· % z.size]!)) (ps.toList.map fun p => (p.1, evalO ts p.2)) = some A' := by
    intro z
    have hA0 : ((Array.range (n * a.sz)).map (z[· % z.size]!)).toList.length = n * a.sz := by simp
    obtain ⟨A1, hf, hA1⟩ := fill_seq (ts := ts) (a := a) (size := a.sz) ps.toList 0 ((Array.range (n * a.sz)).map (z[· % z.size]!)) [] ((Array.range (n * a.sz)).map (z[· % z.size]!)).toList [] (by simp) (by simp) (by rw [hA0, hps]) rfl hpk hidx
    rw [hf]
    congr 1
    apply Array.toList_inj.1
    rw [hA1]
    simp [A', hcs]
  have hA' : A'.toList = cs := rfl
  have hAs : A'.size = n * a.sz := by rw [← Array.length_toList, hA', hlc, hxl, hps]
  have ht := alloc_turn w (.cells A' el)
  have R2 := (RelX.dropAll (H := []) R').world ht (fun _ _ h => h.elim) (fun _ _ h => h.elim) (fun _ _ _ h => h.elim)
  have hcl : cellsAt (w.alloc (.cells A' el)) ⟨w.heap.size, 0, none⟩ cs := by
    intro j v hj
    rw [add_mk, Nat.zero_add, World.cell?_alloc_new, ← Array.getElem?_toList, hA']
    exact hj
  have hrall : repA (rep G' (w.alloc (.cells A' el)) a (C.em a)) xs cs fs :=
    repA_imp _ _ _ (fun z _ c f _ hz => rep_frame ht.toSame (fun _ h => h) (fun _ _ h => h.elim) _ _ _ _ _ (fun _ _ _ h => h) hz) hrep
  have hnewl := repL_of_cells (w := w.alloc (.cells A' el)) (b := w.heap.size) lenR xs cs fs 0 hrall hcl
  have hfsb : ∀ r ∈ fs, r.blk ≠ w.heap.size := fun r hr => by
    obtain ⟨j, _, hj⟩ := hfsj r hr
    have := (R'.ok j r hj).2.1
    omega
  have R3 := R2.hold (v := ⟨.list a, .o (C.em a), xs⟩) (c := .slice (some ⟨w.heap.size, 0, none⟩) n n) (f := ⟨w.heap.size, 0, 0 + n * a.sz⟩ :: fs)
    ⟨.inr ⟨w.heap.size, 0, n, fs, by simp [unpack, Ty.agg, hxl, hps], (by show xs.length ≤ n; omega), rfl, ⟨A', el, by show (w.heap.push _)[w.heap.size]? = _; simp, by omega⟩, hnewl⟩, rfl⟩ (List.pairwise_cons.2 ⟨fun r hr => (hfsb r hr).symm, ndfs⟩) (fun j => ?_) (fun q hq => ?_)
  · obtain ⟨F3, env3, k1, k2, k3⟩ := set_val R3 (hc.moved hce) hg hl hK
    refine ⟨_, _, _, _, _, .inl ?_, k1, k2, k3.trans hlen⟩
    have hmap : (ps.map fun (p : Nat × Operand) => (p.1, evalO ts p.2)).toList = ps.toList.map fun p => (p.1, evalO ts p.2) := by simp
    simp only [execOp, Instr.buildSlice, Sem.run_bind, run_underlying hd1, Result.andThen_ok, hEf.size]
    have hbig' : ¬ (n * a.sz > 2 ^ 24) := by omega
    simp only [hbig', if_false]
    have hfill' : ∀ z : Array Value, Instr.fill (fun i => some (i * a.sz, a.sz)) ((Array.range (n * a.sz)).map (z[· % z.size]!)) (ps.map fun (p : Nat × Operand) => (p.1, evalO ts p.2)).toList = some A' := fun z => by rw [hmap]; exact hfill z
    by_cases h0 : n * a.sz = 0
    · rw [if_pos h0]
      simp only [Sem.run_bind, Sem.run_pure, Result.andThen_ok]
      rw [hfill' #[]]
      simp [newRow]
    · rw [if_neg h0]
      simp only [Sem.run_bind, Sem.run_pure, Result.andThen_ok, hzc]
      rw [hfill' (pack a zc).cells]
      simp [newRow]
  · intro q hq z hz
    split at hz
    · rename_i hjl
      rcases List.mem_cons.1 hq with rfl | hq
      · have := (R'.ok j z hz).2.1
        simp only [ne_eq]
        omega
      · obtain ⟨j', hj1, hj2⟩ := hfsj q hq
        exact R'.ap j' j (by simp at hjl; omega) q hj2 z hz
    · simp at hz
  · rcases List.mem_cons.1 hq with rfl | hq
    · refine ⟨fun hb => ?_, by simp, .inl R.turn.size⟩
      have := (R'.gl _ hb).1
      simp at this
    · obtain ⟨j', _, hj2⟩ := hfsj q hq
      obtain ⟨k1, k2, k3⟩ := R'.ok j' q hj2
      exact ⟨k1, Nat.lt_of_lt_of_le k2 ht.size, k3⟩

/-- the cells of a row of zero values -/
theorem zeros_rep {a : Ty} {m : Md} {zc : List Value} (hz : rep G w a m a.zero zc []) : ∀ (n : Nat), repA (rep G w a m) (List.replicate n a.zero) (List.replicate n zc).flatten []
  | 0 => ⟨rfl, rfl⟩
  | n + 1 => by
    rw [List.replicate_succ, List.replicate_succ, List.flatten_cons]
    exact ⟨_, _, [], [], hz, zeros_rep hz n, rfl, rfl⟩

theorem row_cells {sz : Nat} (z : Array Value) (hz : z.size = sz) : ∀ (n : Nat), ((Array.range (n * sz)).map (z[· % z.size]!)).toList = (List.replicate n z.toList).flatten := by
  intro n
  apply List.ext_getElem
  · simp [hz]
  · intro i h1 h2
    have hi : i < n * sz := by simpa using h1
    have hsz : 0 < sz := by
      rcases Nat.eq_zero_or_pos sz with h | h
      · subst h; simp at hi
      · exact h
    have hmod : i % sz < z.size := by rw [hz]; exact Nat.mod_lt _ hsz
    have key : ∀ (n i : Nat) (h : i < (List.replicate n z.toList).flatten.length), (List.replicate n z.toList).flatten[i] = z[i % z.size]! := by
      intro n
      induction n with
      | zero => intro i h; simp at h
      | succ n ih =>
        intro i h
        simp only [List.replicate_succ, List.flatten_cons] at h ⊢
        by_cases hl : i < z.toList.length
        · rw [List.getElem_append_left hl]
          have hl' : i < z.size := by simpa using hl
          rw [Nat.mod_eq_of_lt hl']
          simp [hl']
        · rw [List.getElem_append_right (by omega), ih]
          have hge : z.size ≤ i := by simpa using hl
          rw [show z.toList.length = z.size by simp, ← Nat.mod_eq_sub_mod hge]
    rw [key]
    simp

theorem op_makeSlice {T : TypeId} {x y : Operand} {d : Nat} (hT : TysOk P C) (R : RelX B G F [] env ts w) (hc : Cur env c) (hg : gOf c = true) (hl : ∀ l ∈ B.lents, l.1 ≠ d)
    (h : (opSem C c ⟨some d, .makeSlice T x y, ty, pos, after, gd⟩).run c (some d) env K = some r) : OpOut P B env ts w ⟨some d, .makeSlice T x y, ty, pos, after, gd⟩ K r := by
  simp only [opSem] at h
  split at h
  case h_2 => simp at h
  rename_i a hTa
  simp only [Rd.run_bind'] at h
  obtain ⟨sx, h, hox⟩ := opnd_run R hc hg h
  obtain ⟨sy, h, hoy⟩ := opnd_run R hc hg h
  have h1 := plainV_run R hox h
  clear h
  obtain ⟨tx, xx, h1, hvx⟩ := h1
  have h := plainV_run R hoy h1
  clear h1
  obtain ⟨t2, xy, h, hvy⟩ := h
  split at h
  case h_2 => simp at h
  rename_i _ _ m1 i m2 j heq1 heq2
  obtain ⟨rfl, _, hx1⟩ : tx = .int .i64 ∧ .s = m1 ∧ HEq xx i := by simpa using heq1
  obtain ⟨rfl, _, hx2⟩ : t2 = .int .i64 ∧ .s = m2 ∧ HEq xy j := by simpa using heq2
  cases hx1
  cases hx2
  rw [Rd.run_bind'] at h
  obtain ⟨hco, h⟩ := Rd.run_guard h
  rw [Rd.run_bind'] at h
  obtain ⟨hck, hk⟩ := Rd.run_check hg h
  simp only [Bool.and_eq_true, decide_eq_true_eq] at hck
  obtain ⟨⟨hij, h0⟩, hbig⟩ := hck
  have hxi := int_val hvx
  have hyj := int_val hvy
  subst hij
  have hTf := tyF (hT _ _ hTa)
  obtain ⟨dsc, hd1, hd2⟩ := hTf.und
  cases dsc <;> simp only [descChk] at hd2 <;> try (cases hd2; done)
  rename_i el
  simp only [Bool.and_eq_true, bne_iff_ne] at hd2
  obtain ⟨hd3, hd4⟩ := hd2
  have hel : C.ty el = some a := by
    split at hd3
    · rename_i a' ha; simp only [decide_eq_true_eq] at hd3; rw [ha, hd3]
    · cases hd3
  have hEf := tyF (hT _ _ hel)
  obtain ⟨inf, hinf, hby⟩ := hEf.bytes
  obtain ⟨zc, hzc, hzz⟩ := hEf.zero
  have hzrep : rep G w a (zmd a) a.zero zc [] := isZ_rep a zc hzz
  obtain ⟨f1, z1, hs1, hs2, _, hzr⟩ := rep_coe _ _ _ _ _ _ hco List.Pairwise.nil hzrep
  have hf1 : f1 = [] := List.eq_nil_of_sublist_nil hs1
  have hz1 : z1 = [] := List.eq_nil_of_sublist_nil hs2
  subst hf1 hz1
  have hzr : rep G w a (C.em a) a.zero zc [] := rep_frame (X := fun _ _ => False) (Same.refl _ w) (fun b hb => hb.elim id (fun ⟨_, h, _⟩ => by simp at h)) (fun _ _ h => h.elim) _ _ _ _ _ (fun _ h => by simp at h) hzr
  have hzlen := rep_len _ _ _ _ _ hzr
  have hzcl : (pack a zc).cells.toList = zc := pack_cells hzlen (rep_one _ _ _ _ _ hzr)
  have hzcells : (pack a zc).cells.size = a.sz := by rw [← Array.length_toList, hzcl, hzlen]
  obtain ⟨N, hN⟩ : ∃ N : Nat, (N : Int) = i := ⟨i.toNat, by omega⟩
  subst hN
  simp only [Int.toNat_natCast] at hk
  have hNb : N ≤ 1073741824 := by omega
  let A' : Array Value := (Array.range (N * a.sz)).map ((pack a zc).cells[· % (pack a zc).cells.size]!)
  have hA' : A'.toList = (List.replicate N zc).flatten := by rw [row_cells _ hzcells, hzcl]
  have hAs : A'.size = N * a.sz := by simp [A']
  have ht := alloc_turn w (.cells A' el)
  have R2 := R.world ht (fun _ _ h => h.elim) (fun _ _ h => h.elim) (fun _ _ _ h => h.elim)
  have hcl : cellsAt (w.alloc (.cells A' el)) ⟨w.heap.size, 0, none⟩ (List.replicate N zc).flatten := by
    intro j v hj
    rw [add_mk, Nat.zero_add, World.cell?_alloc_new, ← Array.getElem?_toList, hA']
    exact hj
  have hrall := zeros_rep (rep_frame (G' := G) ht.toSame (fun _ h => h) (fun _ _ h => h.elim) _ _ _ _ _ (fun _ _ _ h => h) hzr) N
  have hnewl := repL_of_cells (w := w.alloc (.cells A' el)) (b := w.heap.size) (fun x c f h => rep_len a (C.em a) x c f h) (List.replicate N a.zero) _ [] 0 hrall hcl
  have R3 := R2.hold (v := ⟨.list a, .o (C.em a), List.replicate N a.zero⟩) (c := .slice (some ⟨w.heap.size, 0, none⟩) N N) (f := [⟨w.heap.size, 0, 0 + N * a.sz⟩])
    ⟨.inr ⟨w.heap.size, 0, N, [], by simp [unpack, Ty.agg], by simp, rfl, ⟨A', el, by show (w.heap.push _)[w.heap.size]? = _; simp, by omega⟩, hnewl⟩, rfl⟩ (by unfold ND; simp) (fun j => ?_) (fun q hq => ?_)
  · obtain ⟨F3, env3, k1, k2, k3⟩ := set_val R3 hc hg hl hk
    refine ⟨_, _, _, _, _, .inl ?_, k1, k2, k3⟩
    have hw : IntKind.i64.wrap (N : Int) = (N : Int) := by rw [IntKind.wrap_i64]; omega
    have hmul : (inf.bytes : Int) * (N : Int) ≤ 2 ^ 48 := by
      have : inf.bytes * N ≤ 65536 * 1073741824 := Nat.mul_le_mul hby hNb
      have h2 : ((inf.bytes * N : Nat) : Int) ≤ ((65536 * 1073741824 : Nat) : Int) := by exact_mod_cast this
      rw [Int.natCast_mul] at h2
      omega
    have hlt : ¬ ((N : Int) < 0) := by omega
    have hgt : ¬ ((inf.bytes : Int) * (N : Int) > 2 ^ 48) := by omega
    simp only [execOp, hxi, hyj, Instr.makeSlice, Sem.run_bind, run_underlying hd1, Result.andThen_ok, asInt, asIntOf, Sem.run_pure, hinf, hw]
    simp only [hlt, hgt, decide_false, Bool.or_self, Bool.false_eq_true, if_false, Int.lt_irrefl, gt_iff_lt, Sem.run_bind, run_askRoom, Result.andThen_ok, hEf.size, Int.toNat_natCast]
    by_cases h0 : N * a.sz = 0
    · have hN0 : N = 0 := by
        rcases Nat.mul_eq_zero.1 h0 with h | h
        · exact h
        · exact absurd h hd4
      subst hN0
      have e0 : ∀ f : Nat → Value, Array.map f (Array.range 0) = #[] := fun f => by apply Array.ext <;> simp
      simp [newRow, A', e0]
    · rw [if_neg h0]
      simp only [Sem.run_bind, Sem.run_pure, Result.andThen_ok, hzc]
      simp [newRow, A']
  · intro q hq z hz
    simp only [List.mem_cons, List.not_mem_nil, or_false] at hq
    subst hq
    have := (R.ok j z hz).2.1
    simp only [ne_eq]
    omega
  · simp only [List.mem_cons, List.not_mem_nil, or_false] at hq
    subst hq
    refine ⟨fun hb => ?_, by simp, .inl R.turn.size⟩
    have := (R.gl _ hb).1
    simp at this

theorem places_at {C : Ctx} {fs : Array Field} {_w0 : World} (hT : TysOk P C) {t : Ty} (h : fieldsChk C.ty fs.toList 0 t = true) :
    ∃ pl : Array (Nat × Nat), (∀ w, (fs.mapM fun f => (do pure (f.offset, ← sizeOf f.type) : Sem (Nat × Nat))).run P w = .ok pl w) ∧
      ∀ f m x u, getP (stepsOf f) t m x = some u → pl[f]? = some (offOf f t, u.t.sz) := by
  have key : ∀ (l : List Field) (off : Nat) (t : Ty), fieldsChk C.ty l off t = true → ∃ pl : List (Nat × Nat), (∀ w, (l.mapM fun f => (do pure (f.offset, ← sizeOf f.type) : Sem (Nat × Nat))).run P w = .ok pl w) ∧
      ∀ f m x u, getP (stepsOf f) t m x = some u → pl[f]? = some (off + offOf f t, u.t.sz) := by
    intro l
    induction l with
    | nil =>
      intro off t h
      cases t <;> simp [fieldsChk] at h
      refine ⟨[], fun w => rfl, fun f m x u hg => ?_⟩
      cases f <;> simp [stepsOf, getP] at hg
    | cons fl l ih =>
      intro off t h
      cases t <;> simp only [fieldsChk] at h <;> try (cases h; done)
      rename_i a b
      simp only [Bool.and_eq_true, beq_iff_eq, bne_iff_ne] at h
      obtain ⟨⟨⟨⟨h1, h2⟩, h3⟩, h4⟩, h5⟩ := h
      have hty : C.ty fl.type = some a := by
        split at h2
        · rename_i a' ha; simp only [decide_eq_true_eq] at h2; rw [ha, h2]
        · cases h2
      obtain ⟨pl, hp1, hp2⟩ := ih (off + a.sz) b h5
      refine ⟨(fl.offset, a.sz) :: pl, fun w => ?_, fun f m x u hg => ?_⟩
      · simp only [List.mapM_cons, Sem.run_bind, (tyF (hT _ _ hty)).size, Result.andThen_ok, Sem.run_pure]
        rw [hp1]
        rfl
      · cases f with
        | zero =>
          simp only [stepsOf, getP, Option.some.injEq] at hg
          subst hg
          simp [offOf, h1]
        | succ f =>
          simp only [stepsOf, getP] at hg
          have := hp2 f _ _ u hg
          simp only [List.getElem?_cons_succ, offOf, this]
          congr 2
          omega
  obtain ⟨pl, h1, h2⟩ := key fs.toList 0 t h
  refine ⟨pl.toArray, fun w => ?_, fun f m x u hg => by simpa using h2 f m x u hg⟩
  rw [Array.mapM_eq_mapM_toList, Sem.run_map, h1]
  rfl

/-- a field of a struct's value is put anew -/
theorem rep_field : ∀ (i : Nat) (t : Ty) (m : Md) (x : t.den) (cs : List Value) (f : List Res) (u v : TV) (n : Md × t.den), rep G w t m x cs f → getP (stepsOf i) t m x = some u → setP (stepsOf i) t m x v = some n →
    ∃ pre mid post f1 f2 f3, cs = pre ++ (mid ++ post) ∧ pre.length = offOf i t ∧ mid.length = u.t.sz ∧ f = f1 ++ (f2 ++ f3) ∧ v.t = u.t ∧
      ∀ cv fv, rep G w v.t v.m v.x cv fv → rep G w t n.1 n.2 (pre ++ (cv ++ post)) (f1 ++ (fv ++ f3)) := by
  intro i
  induction i with
  | zero =>
    intro t m x cs f u v n hr hg hs
    have hvt := getP_setP_ty _ _ _ _ _ _ _ hg hs
    cases t <;> simp only [stepsOf, getP] at hg <;> try (cases hg; done)
    rename_i a b
    simp only [Option.some.injEq] at hg
    subst hg
    simp only [stepsOf, setP, Option.map_eq_some_iff] at hs
    obtain ⟨q, ⟨y, hy, rfl⟩, rfl⟩ := hs
    obtain ⟨c1, c2, f1, f2, h1, h2, rfl, rfl⟩ := hr
    refine ⟨[], c1, c2, [], f1, f2, rfl, rfl, rep_len _ _ _ _ _ h1, rfl, hvt, fun cv fv hv => ?_⟩
    obtain ⟨vt, vm, vx⟩ := v
    simp only at hvt
    subst hvt
    obtain ⟨e, rfl⟩ := castV_eq hy
    exact ⟨cv, c2, fv, f2, by simpa using hv, by simpa using h2, rfl, rfl⟩
  | succ i ih =>
    intro t m x cs f u v n hr hg hs
    cases t <;> simp only [stepsOf, getP] at hg <;> try (cases hg; done)
    rename_i a b
    simp only [stepsOf, setP, Option.map_eq_some_iff] at hs
    obtain ⟨q, hq, rfl⟩ := hs
    obtain ⟨c1, c2, f1, f2, h1, h2, rfl, rfl⟩ := hr
    obtain ⟨pre, mid, post, g1, g2, g3, rfl, hp, hm, rfl, hvt, hupd⟩ := ih b _ _ c2 f2 u v q h2 hg hq
    refine ⟨c1 ++ pre, mid, post, f1 ++ g1, g2, g3, by simp, by simp [offOf, rep_len _ _ _ _ _ h1, hp], hm, by simp, hvt, fun cv fv hv => ?_⟩
    exact ⟨c1, pre ++ (cv ++ post), f1, g1 ++ (fv ++ g3), by simpa using h1, by simpa using hupd cv fv hv, by simp, by simp⟩

/-- two held values become one -/
theorem RelX.join {u1 u2 u : TV} {v1 v2 v : Value} (R : RelX B G F (H ++ [(u1, v1)] ++ [(u2, v2)]) env ts w) {f : List Res}
    (hf : ∀ r ∈ f, r ∈ F (env.length + H.length) ∨ r ∈ F (env.length + (H.length + 1))) (nd : ND f) (hv : vrel G w u.t u.m u.x v f) :
    ∃ F', RelX B G F' (H ++ [(u, v)]) env ts w := by
  have R1 := (R.dropHeld).dropHeld
  have hk : (H ++ [(u1, v1)]).length = H.length + 1 := by simp
  rw [hk] at R1
  refine ⟨_, R1.hold hv nd (fun j => ?_) (fun r hr => ?_)⟩
  · intro r hr q hq
    unfold upd at hq
    split at hq
    · simp at hq
    · split at hq
      · simp at hq
      · rename_i h1 h2
        rcases hf r hr with h | h
        · exact R.ap _ j (Ne.symm h1) r h q hq
        · exact R.ap _ j (Ne.symm h2) r h q hq
  · rcases hf r hr with h | h
    · exact R.ok _ r h
    · exact R.ok _ r h

theorem fill_nil {place : Nat → Option (Nat × Nat)} {A : Array Value} : Instr.fill place A [] = some A := rfl

/-- the parts of a struct's literal -/
theorem buildP_run {d : Option Nat} (hg : gOf c = true) {place : Nat → Option (Nat × Nat)} {t0 : Ty} (hplace : ∀ f m (x : t0.den) u, getP (stepsOf f) t0 m x = some u → place f = some (offOf f t0, u.t.sz)) :
    ∀ (ps : List (Nat × Operand)) (env : Env) (G : Nat → Prop) (F : Nat → List Res) (m : Md) (x : t0.den) (A : Array Value) (K : TV → Env → Option ρ),
    RelX B G F [(⟨t0, m, x⟩, pack t0 A.toList)] env ts w → A.toList.length = t0.sz → t0.agg = true → Cur env c → (buildP c ps ⟨t0, m, x⟩).run c d env K = some r →
    ∃ G' F' env' m' x' A', Instr.fill place A (ps.map fun p => (p.1, evalO ts p.2)) = some A' ∧ K ⟨t0, m', x'⟩ env' = some r ∧ RelX B G' F' [(⟨t0, m', x'⟩, pack t0 A'.toList)] env' ts w ∧ env'.length = env.length ∧ Kept c env env'
  | [], env, G, F, m, x, A, K, R, hA, hag, hc, h => by
    simp only [buildP, Rd.run_pure] at h
    exact ⟨G, F, env, m, x, A, rfl, h, R, rfl, Kept.refl _ _⟩
  | (i, o) :: ps, env, G, F, m, x, A, K, R, hA, hag, hc, h => by
    simp only [buildP, Rd.run_bind'] at h
    obtain ⟨w0, hw0, h⟩ := Rd.run_opt h
    obtain ⟨sl, h, ho⟩ := opnd_run R hc hg h
    obtain ⟨u, GF1, F1, env1, h, hGF1, R1, hlen1, hce⟩ := take_run hg R ho h
    obtain ⟨n, hn, h⟩ := Rd.run_opt h
    have hv1 : vrel GF1 w t0 m x (pack t0 A.toList) (F1 (env1.length + 0)) := R1.held 0 _ rfl
    have hv2 : vrel GF1 w u.t u.m u.x (evalO ts o) (F1 (env1.length + 1)) := R1.held 1 _ rfl
    have hup : unpack t0 (pack t0 A.toList) = A.toList := by simp [unpack, pack, hag]
    have hr1 := hv1.1
    rw [hup] at hr1
    obtain ⟨pre, mid, post, f1, f2, f3, hcs, hp, hm, hf, hvt, hupd⟩ := rep_field i t0 m x _ _ w0 u n hr1 hw0 hn
    have hnew := hupd _ _ hv2.1
    have hl2 := rep_len _ _ _ _ _ hv2.1
    have hcells : (evalO ts o).cells.toList = unpack u.t (evalO ts o) := by
      have := pack_cells hl2 (rep_one _ _ _ _ _ hv2.1)
      rw [hv2.2] at this
      exact this
    obtain ⟨A1, hfill, hA1⟩ := fill_step (place := place) (i := i) (rest := ps.map fun p => (p.1, evalO ts p.2)) (hplace i m x w0 hw0) hcs hp hm (by rw [← Array.length_toList, hcells, hl2, hvt])
    rw [hcells] at hA1
    rw [← hA1] at hnew
    have nd1 := R1.nd (env1.length + 0)
    rw [hf] at nd1
    obtain ⟨n1, n2, n3⟩ := ND.append.1 nd1
    obtain ⟨_, n4, n5⟩ := ND.append.1 n2
    have ap12 : Apart (F1 (env1.length + 0)) (F1 (env1.length + 1)) := R1.ap _ _ (by omega)
    have hsub1 : ∀ z ∈ f1, z ∈ F1 (env1.length + 0) := fun z hz => by rw [hf]; simp [hz]
    have hsub3 : ∀ z ∈ f3, z ∈ F1 (env1.length + 0) := fun z hz => by rw [hf]; simp [hz]
    obtain ⟨F2, R2⟩ := RelX.join (H := []) (u := ⟨t0, n.1, n.2⟩) (v := pack t0 A1.toList) (f := f1 ++ (F1 (env1.length + 1) ++ f3)) R1 (fun z hz => by
        simp only [List.mem_append] at hz
        rcases hz with h | h | h
        · exact .inl (hsub1 z h)
        · exact .inr h
        · exact .inl (hsub3 z h))
      (ND.append.2 ⟨n1, ND.append.2 ⟨R1.nd _, n4, fun a ha z hz => (ap12 z (hsub3 z hz) a ha).symm⟩, fun a ha z hz => by
        rcases List.mem_append.1 hz with hz | hz
        · exact ap12 a (hsub1 a ha) z hz
        · exact n3 a ha z (by simp [hz])⟩) (vrel_pack hnew)
    obtain ⟨G', F', env', m', x', A', hf', hK, R', hlen, hce'⟩ := buildP_run hg hplace ps env1 GF1 F2 n.1 n.2 A1 K R2 (rep_len _ _ _ _ _ hnew) hag (hc.moved hce) h
    refine ⟨G', F', env', m', x', A', by simp only [List.map_cons]; rw [hfill, hf'], hK, R', hlen.trans hlen1, ?_⟩
    exact hce.trans hce'

theorem op_build {T : TypeId} {ps : Array (Nat × Operand)} {d : Nat} (hT : TysOk P C) (R : RelX B G F [] env ts w) (hc : Cur env c) (hg : gOf c = true) (hl : ∀ l ∈ B.lents, l.1 ≠ d)
    (h : (opSem C c ⟨some d, .build T ps, ty, pos, after, gd⟩).run c (some d) env K = some r) : OpOut P B env ts w ⟨some d, .build T ps, ty, pos, after, gd⟩ K r := by
  simp only [opSem] at h
  rw [Rd.run_bind'] at h
  obtain ⟨t, ht, h⟩ := Rd.run_opt h
  have hTf := tyF (hT _ _ ht)
  obtain ⟨zc, hzc, hzz⟩ := hTf.zero
  have hzrep : ∀ G, rep G w t (zmd t) t.zero zc [] := fun G => isZ_rep t zc hzz
  have hzl := rep_len _ _ _ _ _ (hzrep G)
  have hzcells : (pack t zc).cells.toList = zc := pack_cells hzl (rep_one _ _ _ _ _ (hzrep G))
  obtain ⟨dsc, hd1, hd2⟩ := hTf.und
  have hmap : (ps.map fun (p : Nat × Operand) => (p.1, evalO ts p.2)).toList = ps.toList.map fun p => (p.1, evalO ts p.2) := by simp
  split at h
  · -- a struct
    rename_i a b
    cases dsc <;> simp only [descChk] at hd2 <;> try (cases hd2; done)
    rename_i fs
    obtain ⟨pl, hpl, hplc⟩ := places_at (_w0 := w) hT hd2
    rw [Rd.run_bind'] at h
    have R1 := R.holdPlain (v := ⟨.pair a b, zmd (.pair a b), (Ty.pair a b).zero⟩) (vrel_pack (hzrep G))
    have hz' : pack (.pair a b) zc = pack (.pair a b) (pack (.pair a b) zc).cells.toList := by rw [hzcells]
    rw [hz'] at R1
    obtain ⟨G', F', env', m', x', A', hf, hK, R', hlen, hce⟩ := buildP_run hg hplc ps.toList env G F _ _ (pack (.pair a b) zc).cells _ R1 (by rw [hzcells]; exact hzl) rfl hc h
    obtain ⟨F2, env2, k1, k2, k3⟩ := set_val R' (hc.moved hce) hg hl hK
    refine ⟨_, _, _, _, _, .inl ?_, k1, k2, k3.trans hlen⟩
    simp only [execOp, Instr.build, Sem.run_bind, hzc, Result.andThen_ok, run_underlying hd1, hpl]
    rw [hmap, hf]
    rfl
  · -- an array
    rename_i n a
    cases dsc <;> simp only [descChk] at hd2 <;> try (cases hd2; done)
    rename_i n' e
    simp only [Bool.and_eq_true, beq_iff_eq] at hd2
    obtain ⟨⟨hnn, hd3⟩, hd4⟩ := hd2
    subst hnn
    have hety : C.ty e = some a := by
      split at hd3
      · rename_i a' ha; simp only [decide_eq_true_eq] at hd3; rw [ha, hd3]
      · cases hd3
    have hEf := tyF (hT _ _ hety)
    rw [Rd.run_bind'] at h
    obtain ⟨hgd, h⟩ := Rd.run_guard h
    simp only [Bool.and_eq_true, decide_eq_true_eq] at hgd
    obtain ⟨hps, hzp⟩ := hgd
    rw [Rd.run_bind'] at h
    obtain ⟨G', F', env', xs, cs, hG', hK, R', hlen, hce, hxl, hrep, hcs, hpk, hidx⟩ := buildL_run hg ps.toList 0 env G F _ R hc h
    have lenR : ∀ (x : a.den) c f, rep G' w a .s x c f → c.length = a.sz := fun x c f h => rep_len _ _ _ _ _ h
    have hlc := repA_len lenR xs cs [] hrep
    have hpl : ps.toList.length = ps.size := Array.length_toList
    have hzr := hzrep G'
    obtain ⟨_, hzA⟩ := hzr
    have hze : (zmd (.arr n a)).e = .s := by
      simp only [zmd]
      rw [plain_md hzp]
      rfl
    rw [hze] at hzA
    -- the zero cells behind the parts
    have hsplit : ∀ (k n : Nat) (cs : List Value), k ≤ n → repA (rep G' w a .s) (List.replicate n a.zero) cs [] → ∃ c1 c2, cs = c1 ++ c2 ∧ c1.length = k * a.sz ∧ repA (rep G' w a .s) (List.replicate (n - k) a.zero) c2 [] := by
      intro k
      induction k with
      | zero => intro n cs _ h; exact ⟨[], cs, rfl, by simp, h⟩
      | succ k ih =>
        intro n cs hk h
        obtain ⟨n, rfl⟩ : ∃ n', n = n' + 1 := ⟨n - 1, by omega⟩
        obtain ⟨ca, cb, fa, fb, ha, hb, rfl, hff⟩ := h
        have hfb : fb = [] := by
          have := hff.symm
          simp only [List.append_eq_nil_iff] at this
          exact this.2
        subst hfb
        obtain ⟨c1, c2, rfl, h1, h2⟩ := ih n cb (by omega) hb
        refine ⟨ca ++ c1, c2, by simp, by simp [lenR _ _ _ ha, h1, Nat.add_mul, Nat.add_comm], ?_⟩
        rwa [show n + 1 - (k + 1) = n - k by omega]
    obtain ⟨z1, z2, hz12, hz1l, hz2⟩ := hsplit ps.size n zc hps hzA
    obtain ⟨A', hf, hA'⟩ := fill_seq (ts := ts) (a := a) (size := a.sz) ps.toList 0 (pack (.arr n a) zc).cells [] z1 z2 (by rw [hzcells, hz12]; simp) (by simp) (by rw [hz1l, hpl]) rfl hpk hidx
    simp only [List.nil_append] at hA'
    rw [← hcs] at hA'
    have hv : vrel G' w (.arr n a) .s (xs ++ List.replicate (n - ps.size) a.zero) (pack (.arr n a) A'.toList) [] := by
      refine vrel_pack ⟨?_, ?_⟩
      · simp [hxl]; omega
      · rw [hA']; exact repA_append xs _ cs z2 [] [] hrep hz2
    obtain ⟨F2, env2, k1, k2, k3⟩ := set_plain R' (hc.moved hce) hg hl hv hK
    refine ⟨_, _, _, _, _, .inl ?_, k1, k2, k3.trans hlen⟩
    simp only [execOp, Instr.build, Sem.run_bind, hzc, Result.andThen_ok, run_underlying hd1, hEf.size]
    rw [hmap, hf]
    rfl
  · simp at h

end
end Go.VL

namespace Go.VL
section
variable {P : Program} {C : Ctx} {B : Base} {G : Nat → Prop} {F : Nat → List Res} {H : List (TV × Value)} {env : Env} {ts : List Value} {w : World}
variable {ρ : Type} {c : List GI} {K : Unit → Env → Option ρ} {r : ρ} {ty : TypeId} {pos : String} {after : Array Edge} {gd : Option (Nat × Bool)}

def boundIs (ts : List Value) (o : Option Operand) (dflt x : Int) : Prop := match o with | none => x = dflt | some o => evalO ts o = .int .i64 x

theorem bound_run {d : Option Nat} {dflt : Int} {o : Option Operand} {K : Int → Env → Option ρ} (R : RelX B G F H env ts w) (hc : Cur env c) (hg : gOf c = true) (h : (bound c dflt o).run c d env K = some r) :
    ∃ x, K x env = some r ∧ boundIs ts o dflt x := by
  cases o with
  | none => simp only [bound, Rd.run_pure] at h; exact ⟨dflt, h, rfl⟩
  | some o =>
    simp only [bound, Rd.run_bind'] at h
    obtain ⟨sl, h, ho⟩ := opnd_run R hc hg h
    obtain ⟨t, x, hk, hv⟩ := plainV_run R ho h
    split at hk
    · rename_i m y heq
      simp only [Rd.run_pure] at hk
      obtain ⟨rfl, h2, h3⟩ : t = .int .i64 ∧ .s = m ∧ HEq x y := by simpa using heq
      cases h3
      exact ⟨y, hk, int_val hv⟩
    · simp at hk

/-- an owned list that a window looks into -/
theorem winSrc_rel {x : Operand} {sl : Sl} {v : Value} {e : Entry} (ho : OpRel G F env ts w x sl v) (hs : winSrc sl x = some e) (hroot : ∀ s, slotOf x = some s → (∃ t m y, sl.e = .val t m y) → ∃ t m y, (env.get s).e = .val t m y) :
    ∃ q ep wc p, e = .pref q ep wc p ∧ slotRel G w env ts (.pref q ep wc p) v [] := by
  unfold winSrc at hs
  split at hs
  · rename_i t m y he
    split at hs
    · rename_i s hm hso
      cases hs
      rcases ho.2 with hu | ho2
      · rw [hu] at he; cases he
      rw [hso] at ho2
      obtain ⟨hlt, hep, hwc, hent, hrel⟩ := ho2
      rw [he] at hrel hent
      have hval : v = ts.getD s undef := by
        have := ho.1
        cases x <;> simp only [slotOf] at hso <;> cases hso
        exact this
      obtain ⟨t', m', y', hr⟩ := hroot s hso ⟨t, m, y, he⟩
      have hr0 : (env.get s).e = .val t m y := by
        rcases hent with h | ⟨g, h, _⟩
        · exact h
        · rw [hr] at h; cases h
      refine ⟨_, _, _, _, rfl, rfl, by rw [hep]; exact Nat.le_refl _, by rw [hwc]; exact Nat.le_refl _, fun _ => ⟨t, m, y, ⟨t, m, y⟩, hr0, rfl, fun _ => ⟨unpack t v, ?_, rep_len _ _ _ _ _ hrel.1, .inl ⟨rfl, by rw [hval]⟩⟩⟩⟩
      exact hrel.2.symm
    · cases hs
  · rename_i q ep wc p he
    cases hs
    exact ⟨_, _, _, _, rfl, ho.pref he⟩
  · cases hs

theorem op_slice {T : TypeId} {x : Operand} {lo hi : Option Operand} {d : Nat} (hT : TysOk P C) (R : RelX B G F [] env ts w) (hc : Cur env c) (hg : gOf c = true) (hl : ∀ l ∈ B.lents, l.1 ≠ d)
    (h : (opSem C c ⟨some d, .slice T x lo hi none, ty, pos, after, gd⟩).run c (some d) env K = some r) : OpOut P B env ts w ⟨some d, .slice T x lo hi none, ty, pos, after, gd⟩ K r := by
  simp only [opSem] at h
  split at h
  case h_2 => simp at h
  rename_i a hTa
  simp only [Rd.run_bind'] at h
  obtain ⟨sl, h, ho⟩ := opnd_run R hc hg h
  have hTf := tyF (hT _ _ hTa)
  obtain ⟨dsc, hd1, hd2⟩ := hTf.und
  cases dsc <;> simp only [descChk] at hd2 <;> try (cases hd2; done)
  rename_i el
  simp only [Bool.and_eq_true, bne_iff_ne] at hd2
  obtain ⟨hd3, hd4⟩ := hd2
  have hel : C.ty el = some a := by
    split at hd3
    · rename_i a' ha; simp only [decide_eq_true_eq] at hd3; rw [ha, hd3]
    · cases hd3
  have hex : ∀ {A : Option Addr} {n cap : Nat} {hv lv : Int}, evalO ts x = .slice A n cap → boundIs ts hi (n : Int) hv → boundIs ts lo 0 lv →
      (0 : Int) ≤ lv → lv ≤ hv → hv ≤ (n : Int) → n ≤ cap → (execOp (evalO ts) ⟨some d, .slice T x lo hi none, ty, pos, after, gd⟩).run P w = .ok (.value (.slice (if cap = lv.toNat then A else A.map (·.add (lv.toNat * a.sz))) (hv.toNat - lv.toNat) (cap - lv.toNat))) w := by
    intro A n cap hv lv hA hhi hlo h0 hlh hhl hlc
    unfold boundIs at hhi hlo
    have hbo : (Instr.sliceBounds true n cap (lo.map (evalO ts)) (hi.map (evalO ts)) none).run P w = .ok (lv.toNat, hv.toNat, cap) w := by
      cases hi with
      | none =>
        simp only at hhi
        subst hhi
        cases lo with
        | none =>
          simp only at hlo
          subst hlo
          simp [Instr.sliceBounds]
        | some lo =>
          simp only at hlo
          simp only [Instr.sliceBounds, Option.map_some, Option.map_none, Sem.run_bind, Sem.run_pure, Result.andThen_ok, hlo, Instr.sliceBound, asIntOf]
          rw [if_pos ⟨h0, by omega⟩]
          simp
      | some hi =>
        simp only at hhi
        cases lo with
        | none =>
          simp only at hlo
          subst hlo
          simp only [Instr.sliceBounds, Option.map_some, Option.map_none, Sem.run_bind, Sem.run_pure, Result.andThen_ok, hhi, Instr.sliceBound, asIntOf]
          rw [if_pos ⟨by omega, by omega⟩]
          simp
        | some lo =>
          simp only at hlo
          simp only [Instr.sliceBounds, Option.map_some, Sem.run_bind, Sem.run_pure, Result.andThen_ok, hhi, hlo, Instr.sliceBound, asIntOf]
          rw [if_pos ⟨by omega, by omega⟩]
          simp only [Sem.run_pure, Result.andThen_ok]
          rw [if_pos ⟨h0, by omega⟩]
          simp
    simp only [execOp, hA, Instr.sliceAt, Sem.run_bind, run_underlying hd1, Result.andThen_ok, Instr.slice, Option.map_none, hbo, (tyF (hT _ _ hel)).size, Sem.run_pure]
  split at h
  · -- a window of an owned list
    rename_i q ep wc p hsrc
    rw [Rd.run_bind'] at h
    have hroot : ∀ s, slotOf x = some s → (∃ t m y, sl.e = .val t m y) → ∃ t m y, (env.get s).e = .val t m y := by
      rintro s hs ⟨t, m, y, he⟩
      unfold winSrc at hsrc
      rw [he] at hsrc
      simp only at hsrc
      split at hsrc
      · rename_i s' hm hs'
        rw [hs] at hs'
        cases hs'
        simp only [Option.some.injEq, Entry.pref.injEq] at hsrc
        obtain ⟨rfl, _⟩ := hsrc
        simp only [peek0, Rd.run_bind'] at h
        obtain ⟨t, m, x, h1, _⟩ := root_run h
        exact ⟨t, m, x, h1⟩
      · cases hsrc
    obtain ⟨q', ep', wc', p', heq, hrel⟩ := winSrc_rel ho hsrc hroot
    cases heq
    obtain ⟨u, f, h, hvx, hlt, hf⟩ := peek0_pref R hrel h
    split at h
    case h_2 => simp at h
    rename_i b m xs
    rw [Rd.run_bind'] at h
    obtain ⟨hm, hk0⟩ := Rd.run_guard h
    simp only [Bool.and_eq_true, decide_eq_true_eq] at hm
    obtain ⟨hm, hab⟩ := hm
    subst hab
    simp only [Rd.run_bind'] at hk0
    obtain ⟨hv, hk1, hhi⟩ := bound_run R hc hg hk0
    obtain ⟨lv, hk2, hlo⟩ := bound_run R hc hg hk1
    obtain ⟨hck, hk⟩ := Rd.run_check hg hk2
    simp only [Bool.and_eq_true, decide_eq_true_eq] at hck
    obtain ⟨⟨h0, hlh⟩, hhl⟩ := hck
    have hvx : vrel G w (.list b) m xs (evalO ts x) f := hvx
    have hhl : hv ≤ (xs.length : Int) := hhl
    obtain ⟨A, cap, hA, _⟩ := list_val (noHole_ne hm) hvx
    rw [hA] at hvx hrel
    obtain ⟨hlc, _⟩ := vrel_window (l := lv.toNat) (h := hv.toNat) (noHole_ne hm) hvx (by omega) (by omega)
    have hwin : slotRel G w env ts (.win (.pref q ep wc p) b.sz lv.toNat hv.toNat) (.slice (if cap = lv.toNat then A else A.map (·.add (lv.toNat * b.sz))) (hv.toNat - lv.toNat) (cap - lv.toNat)) [] :=
      ⟨rfl, A, xs.length, cap, hrel, by omega, by omega, rfl⟩
    obtain ⟨F', env', k1, k2, k3⟩ := set_ref R hc hg hl hwin (fun _ _ => by simp) hk
    exact ⟨_, _, _, _, _, .inl (hex hA hhi hlo h0 hlh hhl hlc), k1, k2, k3⟩
  · simp at h
  rw [Rd.run_bind'] at h
  obtain ⟨u, GF1, F1, env1, h, hGF1, R1, hlen1, hce⟩ := take_run hg R ho h
  have hc1 := hc.moved hce
  split at h
  case h_2 => simp at h
  rename_i b m xs
  rw [Rd.run_bind'] at h
  obtain ⟨hm, hk0⟩ := Rd.run_guard h
  simp only [Bool.and_eq_true, decide_eq_true_eq] at hm
  obtain ⟨hm, hab⟩ := hm
  subst hab
  simp only [Rd.run_bind'] at hk0
  obtain ⟨hv, hk1, hhi⟩ := bound_run R1 hc1 hg hk0
  obtain ⟨lv, hk2, hlo⟩ := bound_run R1 hc1 hg hk1
  obtain ⟨hck, hk⟩ := Rd.run_check hg hk2
  simp only [Bool.and_eq_true, decide_eq_true_eq] at hck
  obtain ⟨⟨h0, hlh⟩, hhl⟩ := hck
  have hvx : vrel GF1 w (.list b) m xs (evalO ts x) (F1 (env1.length + 0)) := R1.held 0 _ rfl
  obtain ⟨A, cap, hA, _⟩ := list_val (noHole_ne hm) hvx
  rw [hA] at hvx R1
  obtain ⟨hlc, _⟩ := vrel_window (l := lv.toNat) (h := hv.toNat) (noHole_ne hm) hvx (by omega) (by omega)
  obtain ⟨F2, R2⟩ := RelX.narrow (H := []) R1 hm (l := lv.toNat) (h := hv.toNat) (by omega) (by omega)
  obtain ⟨F', env', k1, k2, k3⟩ := set_val R2 hc1 hg hl hk
  exact ⟨_, _, _, _, _, .inl (hex hA hhi hlo h0 hlh hhl hlc), k1, k2, k3.trans hlen1⟩

end
end Go.VL

namespace Go.VL
section
variable {P : Program} {C : Ctx} {B : Base} {G : Nat → Prop} {F : Nat → List Res} {H : List (TV × Value)} {env : Env} {ts : List Value} {w : World}
variable {ρ : Type} {c : List GI} {r : ρ}

/-- a root's or a part's mark turns to shared: nothing in memory turns -/
theorem RelX.shareAt (R : RelX B G F H env ts w) {q : Nat} {t : Ty} {m m2 : Md} {x x2 : t.den} {pre f post : List Res}
    (hr : (env.get q).e = .val t m x) (hF : F q = pre ++ (f ++ post)) (hrep : rep (fun b => G b ∨ blks f b) w t m2 x2 (unpack t (ts.getD q undef)) (pre ++ post)) :
    ∃ F', RelX B (fun b => G b ∨ blks f b) F' H (env.put ⟨q, .all, .val t m2 x2⟩) ts w := by
  obtain ⟨hlt, hroot⟩ := R.rootVal hr
  have hmem : ∀ z ∈ f, z ∈ F q := fun z hz => by rw [hF]; simp [hz]
  have hmem2 : ∀ z ∈ pre ++ post, z ∈ F q := fun z hz => by rw [hF]; simp at hz ⊢; rcases hz with h | h <;> simp [h]
  have nd := R.nd q
  rw [hF] at nd
  obtain ⟨n1, n2, n3⟩ := ND.append.1 nd
  obtain ⟨n4, n5, n6⟩ := ND.append.1 n2
  exact ⟨_, R.setRoot (X := fun _ _ => False) (b := .all) (f' := pre ++ post) hr (fun _ h => .inl h)
    (fun b hb j hj ⟨z, hz, e⟩ => by
      rcases hb with hb | ⟨y, hy, e'⟩
      · exact (R.ok j z hz).1 (e ▸ hb)
      · exact R.ap j q hj z hz y (hmem y hy) (e.trans e'.symm))
    (fun b hb => by
      rcases hb with hb | ⟨y, hy, rfl⟩
      · exact R.gl b hb
      · obtain ⟨_, h2, h3⟩ := R.ok q y (hmem y hy)
        exact ⟨h2, .inr (h3.imp id fun ⟨z, hz, e, _⟩ => ⟨z, hz, e⟩)⟩)
    (Turn.refl _ w) (fun _ _ h => h.elim) (fun _ _ h => h.elim) (fun _ _ _ h => h.elim) ⟨hrep, hroot.2⟩
    (ND.append.2 ⟨n1, n5, fun a ha z hz => n3 a ha z (by simp [hz])⟩)
    (fun j hj a ha z hz => R.ap q j (Ne.symm hj) a (hmem2 a ha) z hz)
    (fun z hz => ⟨fun hb => by
        rcases hb with hb | ⟨y, hy, e⟩
        · exact (R.ok q z (hmem2 z hz)).1 hb
        · rcases List.mem_append.1 hz with h | h
          · exact n3 z h y (by simp [hy]) e.symm
          · exact n6 y hy z h e, (R.ok q z (hmem2 z hz)).2⟩)
    (fun h => absurd rfl h)⟩

theorem share_run {d : Option Nat} {o : Operand} {sl : Sl} {v : Value} {K : TV → Env → Option ρ} (hg : gOf c = true) (R : RelX B G F H env ts w) (ho : OpRel G F env ts w o sl v)
    (h : (share o sl).run c d env K = some r) : ∃ t x G' F' env', Kept c env env' ∧ K ⟨t, .s, x⟩ env' = some r ∧ (∀ b, G b → G' b) ∧ RelX B G' F' H env' ts w ∧ env'.length = env.length ∧ vrel G' w t .s x v [] := by
  have ho2 : sl.e ≠ .undef → match slotOf o with
    | some s => s < env.length ∧ sl.ep = (env.get s).ep ∧ sl.wc = (env.get s).wc ∧ ((env.get s).e = sl.e ∨ ∃ g, (env.get s).e = .g g sl.e ∧ gOf g = true) ∧ slotRel G w env ts sl.e v (F s)
    | none => ∃ t m x, sl.e = .val t m x ∧ vrel G w t m x v [] := fun hu => ho.2.resolve_left hu
  unfold share at h
  split at h
  · rename_i t m x he
    cases hs : slotOf o with
    | none =>
      simp only [hs, Rd.run_bind'] at h
      obtain ⟨hfz, h⟩ := Rd.run_guard h
      simp only [Rd.run_pure] at h
      have := ho2 (by rw [he]; simp)
      rw [hs] at this
      obtain ⟨t', m', x', he', hrel⟩ := this
      rw [he] at he'
      cases he'
      exact ⟨t, x, G, F, env, Kept.refl _ _, h, fun _ h => h, R, rfl, rep_share (fun _ h => h) _ _ _ _ _ hfz (fun z hz => by simp at hz) hrel.1, hrel.2⟩
    | some s =>
      simp only [hs, Rd.run_bind'] at h
      obtain ⟨t0, m0, x0, h0, _, h⟩ := root_run h
      obtain ⟨hfz, h⟩ := Rd.run_guard h
      obtain ⟨hcn, h⟩ := Rd.run_moveU hg h
      simp only [Rd.run_pure] at h
      have := ho2 (by rw [he]; simp)
      rw [hs] at this
      obtain ⟨hlt, hep, _, hent, hrel⟩ := this
      have hval : v = ts.getD s undef := by
        have := ho.1
        cases o <;> simp only [slotOf] at hs <;> cases hs
        exact this
      have hroot := (R.rootVal h0).2
      have hsh := rep_share (G' := fun b => G b ∨ blks (F s) b) (fun _ h => .inl h) _ _ _ _ _ hfz (fun z hz => .inr ⟨z, hz, rfl⟩) hroot.1
      obtain ⟨F', R'⟩ := R.shareAt (m2 := .s) (x2 := x0) (pre := []) (f := F s) (post := []) h0 (by simp) hsh
      exact ⟨t0, x0, _, F', _, hcn, h, fun _ h => .inl h, R', Env.length_put _ _, by rw [hval]; exact ⟨hsh, hroot.2⟩⟩
  · rename_i q ep wc p he
    simp only [Rd.run_bind'] at h
    obtain ⟨t, m, x, h1, h2, h⟩ := root_run h
    obtain ⟨u, hu, h⟩ := Rd.run_opt h
    obtain ⟨hga, h⟩ := Rd.run_guard h
    simp only [Bool.and_eq_true] at hga
    obtain ⟨hfz, ha⟩ := hga
    obtain ⟨n, hset, h⟩ := Rd.run_opt h
    obtain ⟨hcn, h⟩ := Rd.run_moveU hg h
    simp only [Rd.run_pure] at h
    have hrel : slotRel G w env ts (.pref q ep wc p) v [] := by
      have := ho2 (by rw [he]; simp)
      cases hs : slotOf o with
      | some s' =>
        rw [hs] at this
        have := this.2.2.2.2
        rw [he] at this
        exact ⟨rfl, this.2⟩
      | none =>
        rw [hs] at this
        obtain ⟨t', m', x', he', _⟩ := this
        rw [he] at he'
        cases he'
    obtain ⟨_, _, _, hrel⟩ := hrel
    obtain ⟨t', m', x', u', hr', hu', hc⟩ := hrel h2
    rw [h1] at hr'
    cases hr'
    rw [hu] at hu'
    cases hu'
    obtain ⟨cs, rfl, hl, hp⟩ := hc ha
    obtain ⟨hlt, hroot⟩ := R.rootVal h1
    rcases hp with ⟨rfl, rfl⟩ | ⟨ad, hw, hcc⟩
    · simp only [getP, Option.some.injEq] at hu
      subst hu
      simp only [setP, castV, dif_pos, Option.map_some, Option.some.injEq] at hset
      subst hset
      have hsh := rep_share (G' := fun b => G b ∨ blks (F q) b) (fun _ h => .inl h) _ _ _ _ _ hfz (fun z hz => .inr ⟨z, hz, rfl⟩) hroot.1
      obtain ⟨F', R'⟩ := R.shareAt (m2 := .s) (x2 := x) (pre := []) (f := F q) (post := []) h1 (by simp) hsh
      exact ⟨t, x, _, F', _, hcn, h, fun _ h => .inl h, R', Env.length_put _ _, vrel_pack hsh⟩
    · obtain ⟨b, o', c1, f, pre, post, rfl, hc1, hr1, hF, hsp, hin, hupd⟩ := lensV p t m x _ _ u ⟨u.t, .s, u.x⟩ ad n hroot.1 (R.nd q) (fun r hr => (R.ok q r hr).1) hu hw rfl hset
      have hcc1 : cs = c1 := cellsAt_inj hcc hc1 (by rw [hl, rep_len _ _ _ _ _ hr1])
      subst hcc1
      have hsh := rep_share (G' := fun b => G b ∨ blks f b) (fun _ h => .inl h) _ _ _ _ _ hfz (fun z hz => .inr ⟨z, hz, rfl⟩) hr1
      have hnew := hupd (fun b => G b ∨ blks f b) w cs [] (fun _ h => .inl h) (Same.refl _ w) hc1 hsh
      obtain ⟨F', R'⟩ := R.shareAt (m2 := n.1) (x2 := n.2) (pre := pre) (f := f) (post := post) h1 hF (by simpa using hnew)
      exact ⟨u.t, u.x, _, F', _, hcn, h, fun _ h => .inl h, R', Env.length_put _ _, vrel_pack hsh⟩
  · simp at h

/-- the operands of the kind f -/
def selV (f : PK → Bool) : List PK → List Operand → List (PK × Operand)
  | k :: ks, o :: os => match f k with | true => (k, o) :: selV f ks os | false => selV f ks os
  | _, _ => []

def kO (k : PK) : Bool := !(k.io || k.m.plain)
def kP (k : PK) : Bool := !k.io && k.m.plain

theorem argsO_run {d : Option Nat} : ∀ (ks : List PK) (os : List Operand) {G : Nat → Prop} {F : Nat → List Res} {H : List (TV × Value)} {env : Env} {K : List TV → Env → Option ρ},
    RelX B G F H env ts w → Cur env c → gOf c = true → (argsO c ks os).run c d env K = some r →
    ∃ us G' F' env', K us env' = some r ∧ (∀ b, G b → G' b) ∧ RelX B G' F' (H ++ us.zip ((selV kO ks os).map fun a => evalO ts a.2)) env' ts w ∧ env'.length = env.length ∧ Kept c env env' ∧
      us.map (·.m) = (selV kO ks os).map (·.1.m) ∧ ks.length = os.length
  | [], [], G, F, H, env, K, R, _, _, h => by
    simp only [argsO, Rd.run_pure] at h
    exact ⟨[], G, F, env, h, fun _ h => h, by simpa [selV] using R, rfl, Kept.refl _ _, rfl, rfl⟩
  | k :: ks, o :: os, G, F, H, env, K, R, hc, hg, h => by
    unfold argsO at h
    split at h
    · rename_i hk
      obtain ⟨us, G', F', env', h1, h2, h3, h4, h5, h6, h7⟩ := argsO_run ks os R hc hg h
      have hk' : kO k = false := by simp [kO, hk]
      exact ⟨us, G', F', env', h1, h2, by simpa [selV, hk'] using h3, h4, h5, by simpa [selV, hk'] using h6, by simp [h7]⟩
    · rename_i hk
      have hk' : kO k = true := by simp [kO, hk]
      simp only [Rd.run_bind'] at h
      obtain ⟨sl, h, ho⟩ := opnd_run R hc hg h
      obtain ⟨u, GF1, F1, env1, h, hGF1, R1, hl1, hce⟩ := take_run hg R ho h
      simp only [coe, Rd.run_bind'] at h
      obtain ⟨hck, h⟩ := Rd.run_check hg h
      simp only [Rd.run_pure] at h
      obtain ⟨G2, F2, hG2, R2⟩ := R1.coe hck
      have hc1 := hc.moved hce
      obtain ⟨us, G', F', env', h1, h2, h3, h4, h5, h6, h7⟩ := argsO_run ks os R2 hc1 hg h
      refine ⟨_, G', F', env', h1, fun b hb => h2 b (hG2 b (hGF1 b hb)), ?_, h4.trans hl1, ?_, ?_, by simp [h7]⟩
      · simpa [selV, hk'] using h3
      · exact hce.trans h5
      · simp [selV, hk', h6]
  | [], _ :: _, _, _, _, _, _, _, _, _, h => by simp [argsO] at h
  | _ :: _, [], _, _, _, _, _, _, _, _, h => by simp [argsO] at h

theorem vrel_G {G G' : Nat → Prop} {w : World} {t : Ty} {m : Md} {x : t.den} {v : Value} {f : List Res} (hG : ∀ b, G b → G' b) (h : vrel G w t m x v f) : vrel G' w t m x v f :=
  vrel_frame (X := fun _ _ => False) (Same.refl _ w) hG (fun _ _ h => h.elim) (fun _ _ _ h => h) h

theorem tupRel_G {G G' : Nat → Prop} {w : World} {es : List TV} {vs : List Value} {f : List Res} (hG : ∀ b, G b → G' b) (h : tupRel G w es vs f) : tupRel G' w es vs f :=
  tupRel_frame (X := fun _ _ => False) (Same.refl _ w) hG (fun _ _ h => h.elim) _ _ _ (fun _ _ _ h => h) h

theorem argsP_run {d : Option Nat} {fr : Bool} : ∀ (ks : List PK) (os : List Operand) {G : Nat → Prop} {F : Nat → List Res} {env : Env} {K : List TV × List Nat → Env → Option ρ},
    RelX B G F H env ts w → Cur env c → gOf c = true → (argsP c fr ks os).run c d env K = some r →
    ∃ vs rts G' F' env', K (vs, rts) env' = some r ∧ (∀ b, G b → G' b) ∧ RelX B G' F' H env' ts w ∧ env'.length = env.length ∧ Kept c env env' ∧
      tupRel (fun b => G' b ∨ ∃ q ∈ rts, q < env'.length ∧ blks (F' q) b) w vs ((selV kP ks os).map fun a => evalO ts a.2) [] ∧ (∀ v ∈ vs, v.m = .s) ∧ (fr = true → rts = []) ∧ (fr = false → env' = env ∧ G' = G ∧ F' = F)
  | [], [], G, F, env, K, R, _, _, h => by
    simp only [argsP, Rd.run_pure] at h
    exact ⟨[], [], G, F, env, h, fun _ h => h, R, rfl, Kept.refl _ _, rfl, by simp, fun _ => rfl, fun _ => ⟨rfl, rfl, rfl⟩⟩
  | k :: ks, o :: os, G, F, env, K, R, hc, hg, h => by
    unfold argsP at h
    split at h
    · rename_i hk
      obtain ⟨vs, rts, G', F', env', h1, h2, h3, h4, h5, h6, h7⟩ := argsP_run ks os R hc hg h
      have hk' : kP k = false := hk
      exact ⟨vs, rts, G', F', env', h1, h2, h3, h4, h5, by simpa [selV, hk'] using h6, h7⟩
    · rename_i hk
      have hk' : kP k = true := hk
      simp only [Rd.run_bind'] at h
      obtain ⟨sl, h, ho⟩ := opnd_run R hc hg h
      obtain ⟨u, f, h, hv, hf⟩ := peek_run R ho h
      split at h
      · simp only [Rd.run_bind'] at h
        obtain ⟨t, x, G1, F1, env1, hcn, h, hG1, R1, hl1, hv1⟩ := share_run hg R ho h
        have hc1 : Cur env1 c := hc.moved hcn
        obtain ⟨vs, rts, G', F', env', h1, h2, h3, h4, h5, h6, h7, h8, h9⟩ := argsP_run ks os R1 hc1 hg h
        simp only [Rd.run_pure] at h1
        refine ⟨_, _, G', F', env', h1, fun b hb => h2 b (hG1 b hb), h3, h4.trans hl1, hcn.trans h5, ?_, ?_, h8, (fun h => by cases h)⟩
        · simp only [selV, hk', List.map_cons]
          exact ⟨[], [], vrel_G (fun b hb => .inl (h2 b hb)) hv1, h6, rfl⟩
        · intro v hv
          rcases List.mem_cons.1 hv with rfl | hv
          · rfl
          · exact h7 v hv
      · rename_i fr pl0 x1 hno _ _
        rw [Rd.run_bind'] at h
        obtain ⟨hfz, h⟩ := Rd.run_guard h
        simp only [Rd.run_bind'] at h
        obtain ⟨vs, rts, G', F', env', h1, h2, h3, h4, h5, h6, h7, h8, h9⟩ := argsP_run ks os R hc hg h
        simp only [Rd.run_pure] at h1
        have hlent : u.m.plain = false → fr = false := fun hp => by
          cases hfr : fr with
          | false => rfl
          | true => exact (hno hp hfr).elim
        have hhead : vrel (fun b => G' b ∨ blks f b) w u.t .s u.x (evalO ts o) [] :=
          ⟨rep_share (fun b hb => .inl (h2 b hb)) _ _ _ _ _ hfz (fun z hz => .inr ⟨z, hz, rfl⟩) hv.1, hv.2⟩
        have hfq : u.m.plain = true → f = [] := fun hp => by
          have hm := plain_md hp
          have hr := hv.1
          rw [hm] at hr
          exact rep_s_fp _ _ _ _ hr
        refine ⟨_, _, G', F', env', h1, h2, h3, h4, h5, ?_, ?_, ?_, h9⟩
        · simp only [selV, hk', List.map_cons]
          refine ⟨[], [], vrel_G ?_ hhead, tupRel_G ?_ h6, rfl⟩
          · rintro b (hb | hb)
            · exact .inl hb
            · cases hp : u.m.plain with
              | true => rw [hfq hp] at hb; obtain ⟨z, hz, _⟩ := hb; simp at hz
              | false =>
                obtain ⟨_, _, hFF⟩ := h9 (hlent hp)
                rw [hFF]
                rcases hf with hf | ⟨q, hq, hql, hfq⟩
                · rw [hf] at hb; obtain ⟨z, hz, _⟩ := hb; simp at hz
                · obtain ⟨z, hz, hzb⟩ := hb
                  obtain ⟨y, hy, hyb⟩ := hfq z hz
                  refine .inr ⟨q, ?_, by rw [h4]; exact hql, y, hy, hyb.trans hzb⟩
                  rcases hq with ⟨ep, wc, p, he⟩ | ⟨ep, wc, p, sz, l, hh, he⟩ | ⟨⟨t, m, x, he⟩, hs⟩
                  · simp [he]
                  · simp [he]
                  · simp [he, hs]
          · rintro b (hb | ⟨q, hq, hb⟩)
            · exact .inl hb
            · refine .inr ⟨q, ?_, hb⟩
              split
              · exact hq
              · simp [hq]
              · simp [hq]
              · simp [hq]
        · intro v hv
          rcases List.mem_cons.1 hv with rfl | hv
          · rfl
          · exact h7 v hv
        · intro hfr
          have hr := h8 hfr
          cases hp : u.m.plain with
          | true => simp only [hr]
          | false => rw [hlent hp] at hfr; cases hfr
  | [], _ :: _, _, _, _, _, _, _, _, h => by simp [argsP] at h
  | _ :: _, [], _, _, _, _, _, _, _, h => by simp [argsP] at h

end
end Go.VL

namespace Go.VL

structure IOD where
  r : Nat
  b : Nat
  o : Nat
  f : List Res
  pre : List Res
  post : List Res
  f2 : List Res
  z : List Res
  c1 : List Value
  u : TV
  p : List Step

section
variable {P : Program} {C : Ctx} {B : Base} {G : Nat → Prop} {F : Nat → List Res} {H : List (TV × Value)} {env : Env} {ts : List Value} {w : World}
variable {ρ : Type} {c : List GI} {r : ρ}

/-- a place handed to a call by pointer: k its kind, val the pointer, v what lies there for the call, v' what the call leaves, e the root's entry afterwards -/
structure IOk (G : Nat → Prop) (F : Nat → List Res) (env : Env) (ts : List Value) (w : World) (a : PK × Operand) (v v' : TV) (e : Entry) (d : IOD) : Prop where
  lt : d.r < env.length
  val_eq : evalO ts a.2 = .pointer (some ⟨d.b, d.o, none⟩)
  v_eq : v = ⟨d.u.t, a.1.m, d.u.x⟩
  fp : F d.r = d.pre ++ (d.f ++ d.post)
  cells : cellsAt w ⟨d.b, d.o, none⟩ d.c1
  rep1 : rep (fun b => G b ∨ blks d.z b) w d.u.t a.1.m d.u.x d.c1 d.f2
  sub2 : d.f2.Sublist d.f
  subz : d.z.Sublist d.f
  apz : Apart d.f2 d.z
  span : spanOk w d.b (d.o + d.u.t.sz)
  inn : ∃ r ∈ d.pre ++ d.post, r.blk = d.b ∧ r.lo ≤ d.o ∧ d.o + d.u.t.sz ≤ r.hi
  ty : v'.t = d.u.t
  back : ∃ t m x m2 x2, (env.get d.r).e = .val t m x ∧ e = .val t m2 x2 ∧
    ∀ (G' : Nat → Prop) (X : Nat → Nat → Prop) w' c1' f', (∀ b, G b → G' b) → Same X w w' → (∀ b' i, X b' i → ¬ G b') →
      (∀ b' i, X b' i → cut d.b d.o d.u.t.sz d.f b' i ∨ ¬ blks (F d.r) b') → cellsAt w' ⟨d.b, d.o, none⟩ c1' → rep G' w' v'.t v'.m v'.x c1' f' → vrel G' w' t m2 x2 (ts.getD d.r undef) (d.pre ++ (f' ++ d.post))
  keep : ∃ t m x m2 x2, (env.get d.r).e = .val t m x ∧ e = .val t m2 x2 ∧ ∀ (X : Nat → Nat → Prop) w', Same X w w' → (∀ b i, X b i → ¬ G b) → (∀ b i, X b i → cut d.b d.o d.u.t.sz d.f b i ∨ ¬ blks (F d.r) b) →
    ∀ (p2 : List Step) (u2 : TV), kills (pat d.p) p2.dropLast = false → getP p2 t m x = some u2 → (∃ u', getP p2 t m2 x2 = some u' ∧ u'.t = u2.t) ∧
      ∀ ad, walkV w p2 t (unpack t (ts.getD d.r undef)) = some ad → walkV w' p2 t (unpack t (ts.getD d.r undef)) = some ad ∧ (kills (pat d.p) p2 = false → u2.t.single = true → ∀ v, w.cell? ad = some v → w'.cell? ad = some v)

def IOpre (G : Nat → Prop) (env : Env) (ts : List Value) (w : World) : List (PK × Operand) → List TV → List (Nat × Nat × List Step) → Prop
  | [], [], [] => True
  | a :: as, v :: ws, pl :: pls => (∃ t m x u, (env.get pl.1).e = .val t m x ∧ fresh (env.get pl.1) pl.2.1 pl.2.2.dropLast = true ∧ getP pl.2.2 t m x = some u ∧ coeOk u.t u.m a.1.m u.x = true ∧ v = ⟨u.t, a.1.m, u.x⟩ ∧
      slotRel G w env ts (.addr pl.1 pl.2.1 pl.2.2) (evalO ts a.2) []) ∧ IOpre G env ts w as ws pls
  | _, _, _ => False

def IOpost (env : Env) : List (Nat × Nat × List Step) → List TV → List Entry → Prop
  | [], [], [] => True
  | pl :: pls, v' :: vs, e :: es => (∃ t m x n, (env.get pl.1).e = .val t m x ∧ setP pl.2.2 t m x v' = some n ∧ e = .val t n.1 n.2) ∧ IOpost env pls vs es
  | _, _, _ => False

def IOall (G : Nat → Prop) (F : Nat → List Res) (env : Env) (ts : List Value) (w : World) : List (PK × Operand) → List TV → List TV → List Entry → List IOD → Prop
  | [], [], [], [], [] => True
  | a :: as, v :: ws, v' :: vs, e :: es, d :: ds => IOk G F env ts w a v v' e d ∧ IOall G F env ts w as ws vs es ds
  | _, _, _, _, _ => False

def putAll : Env → List Nat → List Entry → Env
  | env, q :: qs, e :: es => putAll (env.put ⟨q, .all, e⟩) qs es
  | env, _, _ => env

/-- the roots behind a call's pointers, as they are put back -/
def putAllB : Env → List (Nat × Nat × List Step) → List Entry → Env
  | env, pl :: pls, e :: es => putAllB (env.put ⟨pl.1, backB pl.2.2, e⟩) pls es
  | env, _, _ => env

theorem argsIO_run {d : Option Nat} (R : RelX B G F H env ts w) (hc : Cur env c) (hg : gOf c = true) : ∀ (ks : List PK) (os : List Operand) {K : List TV × List (Nat × Nat × List Step) → Env → Option ρ},
    (argsIO c ks os).run c d env K = some r → ∃ ws pls, K (ws, pls) env = some r ∧ IOpre G env ts w (selV (·.io) ks os) ws pls
  | [], [], K, h => by
    simp only [argsIO, Rd.run_pure] at h
    exact ⟨[], [], h, trivial⟩
  | k :: ks, o :: os, K, h => by
    unfold argsIO at h
    split at h
    · rename_i hk
      obtain ⟨ws, pls, h1, h2⟩ := argsIO_run R hc hg ks os h
      exact ⟨ws, pls, h1, by simpa [selV, hk] using h2⟩
    · rename_i hk
      simp only [Rd.run_bind'] at h
      obtain ⟨sl, h, ho⟩ := opnd_run R hc hg h
      obtain ⟨q, ep, p, h, hrel⟩ := asPlace_run hg R ho h
      obtain ⟨t, m, x, u, h1, h2, hu, h⟩ := placeA_run h
      obtain ⟨hco, h⟩ := coe_run hg h
      obtain ⟨ws, pls, h3, h4⟩ := argsIO_run R hc hg ks os h
      simp only [Rd.run_pure] at h3
      refine ⟨_, _, h3, ?_⟩
      simp only [selV, hk]
      exact ⟨⟨t, m, x, u, h1, h2, hu, hco, rfl, hrel⟩, h4⟩
  | [], _ :: _, _, h => by simp [argsIO] at h
  | _ :: _, [], _, h => by simp [argsIO] at h

theorem backs_run {d : Option Nat} (hg : gOf c = true) {K : Unit → Env → Option ρ} : ∀ (pls : List (Nat × Nat × List Step)) (vs : List TV) {env : Env}, (pls.map (·.1)).Nodup →
    (backs pls vs).run c d env K = some r → ∃ es, K () (putAllB env pls es) = some r ∧ IOpost env pls vs es ∧ Kept c env (putAllB env pls es)
  | [], [], env, _, h => by
    simp only [backs, Rd.run_pure] at h
    exact ⟨[], h, trivial, Kept.refl _ _⟩
  | pl :: pls, v :: vs, env, hnd, h => by
    simp only [backs, putPlace, Rd.run_bind'] at h
    obtain ⟨t, m, x, h1, h2, h⟩ := root_run h
    obtain ⟨n, hset, h⟩ := Rd.run_opt h
    obtain ⟨hcn, h⟩ := Rd.run_moveU hg h
    have hnd' := List.nodup_cons.1 hnd
    obtain ⟨es, h3, h4, h5⟩ := backs_run hg pls vs hnd'.2 h
    refine ⟨.val t n.1 n.2 :: es, h3, ⟨⟨t, m, x, n, h1, hset, rfl⟩, ?_⟩, Kept.trans hcn h5⟩
    have key : ∀ (pls : List (Nat × Nat × List Step)) (vs : List TV) (es : List Entry), pl.1 ∉ pls.map (·.1) → IOpost (env.put ⟨pl.1, backB pl.2.2, .val t n.1 n.2⟩) pls vs es → IOpost env pls vs es := by
      intro pls
      induction pls with
      | nil => intro vs es _ h; cases vs <;> cases es <;> exact h
      | cons a pls ih =>
        intro vs es hm h
        cases vs <;> cases es <;> try exact h.elim
        obtain ⟨⟨t', m', x', n', k1, k2, k3⟩, k4⟩ := h
        simp only [List.map_cons, List.mem_cons, not_or] at hm
        rw [Env.get_put_other env ⟨pl.1, backB pl.2.2, .val t n.1 n.2⟩ (Ne.symm hm.1)] at k1
        exact ⟨⟨t', m', x', n', k1, k2, k3⟩, ih _ _ hm.2 k4⟩
    exact key pls vs es hnd'.1 h4
  | [], _ :: _, _, _, h => by simp [backs] at h
  | _ :: _, [], _, _, h => by simp [backs] at h

theorem ioAll (R : RelX B G F H env ts w) : ∀ (as : List (PK × Operand)) (ws : List TV) (pls : List (Nat × Nat × List Step)) (vs : List TV) (es : List Entry), IOpre G env ts w as ws pls → IOpost env pls vs es →
    ∃ ds : List IOD, IOall G F env ts w as ws vs es ds ∧ ds.map (·.r) = pls.map (·.1) ∧ ds.map (·.p) = pls.map (·.2.2)
  | [], [], [], [], [], _, _ => ⟨[], trivial, rfl, rfl⟩
  | a :: as, v :: ws, pl :: pls, v' :: vs, e :: es, h, k => by
    obtain ⟨⟨t, m, x, u, h1, h2, hu, hco, hv, hrel⟩, h⟩ := h
    obtain ⟨⟨t', m', x', n, k1, hset, rfl⟩, k⟩ := k
    rw [h1] at k1
    cases k1
    obtain ⟨ds, hds, hmap, hmap2⟩ := ioAll R as ws pls vs es h k
    obtain ⟨_, _, hrel⟩ := hrel
    obtain ⟨t0, m0, x0, u0, ad, g1, g2, hw, hval⟩ := hrel h2
    rw [h1] at g1
    cases g1
    rw [hu] at g2
    cases g2
    obtain ⟨hlt, hroot⟩ := R.rootVal h1
    have hty := getP_setP_ty _ _ _ _ _ _ _ hu hset
    obtain ⟨b, o', c1, f, pre, post, rfl, hc1, hr1, hF, hsp, hin, hupd⟩ := lensX pl.2.2 t m x _ _ u v' ad n hroot.1 (R.nd pl.1) (fun r hr => (R.ok pl.1 r hr).1) hu hw hty hset
    have nd := R.nd pl.1
    rw [hF] at nd
    have ndf := (ND.append.1 (ND.append.1 nd).2.1).1
    obtain ⟨f2, z, hf2, hz, hfz, hrep⟩ := rep_coe _ _ _ _ _ _ hco ndf hr1
    refine ⟨⟨pl.1, b, o', f, pre, post, f2, z, c1, u, pl.2.2⟩ :: ds, ⟨?_, hds⟩, by simp [hmap], by simp [hmap2]⟩
    exact { lt := hlt, val_eq := hval, v_eq := hv, fp := hF, cells := hc1, rep1 := hrep, sub2 := hf2, subz := hz, apz := hfz, span := hsp, inn := hin, ty := hty,
            back := ⟨t, m, x, n.1, n.2, h1, rfl, fun G' X w' c1' f' hG hs hXG hXc hc hr => ⟨hupd G' X w' c1' f' hG hs hXG hXc hc hr, hroot.2⟩⟩,
            keep := ⟨t, m, x, n.1, n.2, h1, rfl, fun X w' hs hXG hXc p2 u2 hk2 hg2 => ⟨getP_keepL pl.2.2 t m x _ n hset p2 u2 hk2 hg2, fun ad hw2 => by
              have hXs : ∀ b' i, X b' i → (b' = b ∧ o' ≤ i ∧ i < o' + u.t.sz) ∨ blks f b' ∨ ¬ blks (F pl.1) b' := fun b' i hx => by
                rcases hXc b' i hx with (h | h) | h
                · exact .inl h
                · exact .inr (.inl h)
                · exact .inr (.inr h)
              have hO : ∀ b', ¬ blks (F pl.1) b' → ∀ r ∈ F pl.1, r.blk ≠ b' := fun b' hb r hr he => hb ⟨r, hr, he⟩
              exact ⟨walkV_keepL hs hXG pl.2.2 t m x _ _ u v' _ n hroot.1 (R.nd pl.1) hu hw hset c1 f _ hc1 hr1 hXs hO p2 u2 ad hk2 hg2 hw2,
                fun hk3 => (walkV_keep hs hXG pl.2.2 t m x _ _ u v' _ n hroot.1 (R.nd pl.1) hu hw hset c1 f _ hc1 hr1 hXs hO p2 u2 ad hk3 hg2 hw2).2⟩⟩⟩ }
  | [], [], [], _ :: _, _, _, h | [], [], [], [], _ :: _, _, h => h.elim
  | [], _ :: _, _, _, _, h, _ | [], [], _ :: _, _, _, h, _ | _ :: _, [], _, _, _, h, _ | _ :: _, _ :: _, [], _, _, h, _ => h.elim
  | _ :: _, _ :: _, _ :: _, [], _, _, h | _ :: _, _ :: _, _ :: _, _ :: _, [], _, h => h.elim

def ptrTV (v : TV) : TV := ⟨.ptr v.t, .o v.m, some v.x⟩
def ioFp (d : IOD) : List Res := ⟨d.b, d.o, d.o + d.u.t.sz⟩ :: d.f2
def zG (G : Nat → Prop) (ds : List IOD) : Nat → Prop := fun b => G b ∨ ∃ d ∈ ds, blks d.z b

theorem ptr_vrel {G : Nat → Prop} {w : World} {t : Ty} {m : Md} {x : t.den} {b o : Nat} {cs : List Value} {f : List Res} (hsp : spanOk w b (o + t.sz)) (hc : cellsAt w ⟨b, o, none⟩ cs) (hr : rep G w t m x cs f) :
    vrel G w (.ptr t) (.o m) (some x) (.pointer (some ⟨b, o, none⟩)) (⟨b, o, o + t.sz⟩ :: f) := by
  refine ⟨?_, by simp [pack, unpack, Ty.agg]⟩
  simp only [unpack, Ty.agg, if_false, Bool.false_eq_true]
  exact ⟨x, b, o, cs, f, rfl, rfl, rfl, hsp, hc, hr⟩

theorem io_tup : ∀ (as : List (PK × Operand)) (ws vs : List TV) (es : List Entry) (ds : List IOD) (G' : Nat → Prop), (∀ b, G b → G' b) → (∀ d ∈ ds, ∀ b, blks d.z b → G' b) → IOall G F env ts w as ws vs es ds →
    tupRel G' w (ws.map ptrTV) (as.map fun a => evalO ts a.2) (ds.flatMap ioFp)
  | [], [], [], [], [], _, _, _, _ => rfl
  | a :: as, v :: ws, v' :: vs, e :: es, d :: ds, G', h1, h2, h => by
    obtain ⟨hd, h⟩ := h
    refine ⟨ioFp d, ds.flatMap ioFp, ?_, io_tup as ws vs es ds G' h1 (fun d hd => h2 d (by simp [hd])) h, by simp⟩
    rw [hd.v_eq]
    show vrel G' w _ _ _ (evalO ts a.2) (ioFp d)
    rw [hd.val_eq]
    refine vrel_G ?_ (ptr_vrel hd.span hd.cells hd.rep1)
    rintro b (hb | hb)
    · exact h1 b hb
    · exact h2 d (by simp) b hb
  | [], _ :: _, _, _, _, _, _, _, h | _ :: _, [], _, _, _, _, _, _, h => h.elim
  | [], [], _ :: _, _, _, _, _, _, h | [], [], [], _ :: _, _, _, _, _, h | [], [], [], [], _ :: _, _, _, _, h => h.elim
  | _ :: _, _ :: _, [], _, _, _, _, _, h | _ :: _, _ :: _, _ :: _, [], _, _, _, _, h | _ :: _, _ :: _, _ :: _, _ :: _, [], _, _, _, h => h.elim

theorem IOall.mem : ∀ (as : List (PK × Operand)) (ws vs : List TV) (es : List Entry) (ds : List IOD), IOall G F env ts w as ws vs es ds → ∀ d ∈ ds, ∃ a v v' e, IOk G F env ts w a v v' e d
  | [], [], [], [], [], _, d, hd => by simp at hd
  | a :: as, v :: ws, v' :: vs, e :: es, d' :: ds, h, d, hd => by
    rcases List.mem_cons.1 hd with rfl | hd
    · exact ⟨a, v, v', e, h.1⟩
    · exact IOall.mem as ws vs es ds h.2 d hd
  | [], _ :: _, _, _, _, h, _, _ | _ :: _, [], _, _, _, h, _, _ => h.elim
  | [], [], _ :: _, _, _, h, _, _ | [], [], [], _ :: _, _, h, _, _ | [], [], [], [], _ :: _, h, _, _ => h.elim
  | _ :: _, _ :: _, [], _, _, h, _, _ | _ :: _, _ :: _, _ :: _, [], _, h, _, _ | _ :: _, _ :: _, _ :: _, _ :: _, [], h, _, _ => h.elim

theorem IOk.mem {a : PK × Operand} {v v' : TV} {e : Entry} {d : IOD} (h : IOk G F env ts w a v v' e d) {z : Res} (hz : z ∈ ioFp d) : ∃ q ∈ F d.r, q.blk = z.blk ∧ q.lo ≤ z.lo ∧ z.hi ≤ q.hi := by
  rcases List.mem_cons.1 hz with rfl | hz
  · obtain ⟨q, hq, h1, h2, h3⟩ := h.inn
    exact ⟨q, by rw [h.fp]; simp at hq ⊢; rcases hq with h | h <;> simp [h], h1, h2, h3⟩
  · exact ⟨z, by rw [h.fp]; simp [h.sub2.subset hz], rfl, Nat.le_refl _, Nat.le_refl _⟩

theorem IOk.nd (R : RelX B G F H env ts w) {a : PK × Operand} {v v' : TV} {e : Entry} {d : IOD} (h : IOk G F env ts w a v v' e d) : ND (ioFp d) ∧ ∀ z ∈ d.f, z.blk ≠ d.b := by
  have nd := R.nd d.r
  rw [h.fp] at nd
  obtain ⟨n1, n2, n3⟩ := ND.append.1 nd
  obtain ⟨n4, n5, n6⟩ := ND.append.1 n2
  have key : ∀ z ∈ d.f, z.blk ≠ d.b := by
    intro z hz
    obtain ⟨q, hq, h1, _⟩ := h.inn
    rw [← h1]
    rcases List.mem_append.1 hq with hq | hq
    · exact (n3 q hq z (by simp [hz])).symm
    · exact n6 z hz q hq
  exact ⟨List.pairwise_cons.2 ⟨fun z hz => (key z (h.sub2.subset hz)).symm, n4.sub h.sub2⟩, key⟩

theorem io_nd (R : RelX B G F H env ts w) : ∀ (ds : List IOD), (∀ d ∈ ds, ∃ a v v' e, IOk G F env ts w a v v' e d) → (ds.map (·.r)).Nodup → ND (ds.flatMap ioFp)
  | [], _, _ => List.Pairwise.nil
  | d :: ds, h, hn => by
    simp only [List.map_cons] at hn
    obtain ⟨h1, h2⟩ := List.nodup_cons.1 hn
    rw [List.flatMap_cons]
    obtain ⟨a, v, v', e, hd⟩ := h d (by simp)
    refine ND.append.2 ⟨(hd.nd R).1, io_nd R ds (fun d hd => h d (by simp [hd])) h2, fun x hx y hy => ?_⟩
    obtain ⟨d', hd', hy⟩ := List.mem_flatMap.1 hy
    obtain ⟨_, _, _, _, hk'⟩ := h d' (by simp [hd'])
    obtain ⟨q, hq, e1, _⟩ := hd.mem hx
    obtain ⟨q', hq', e2, _⟩ := hk'.mem hy
    rw [← e1, ← e2]
    refine R.ap d.r d'.r (fun he => h1 ?_) q hq q' hq'
    exact List.mem_map.2 ⟨d', hd', he.symm⟩

end
end Go.VL

namespace Go.VL
section
variable {P : Program} {C : Ctx} {B : Base} {G : Nat → Prop} {F : Nat → List Res} {H : List (TV × Value)} {env : Env} {ts : List Value} {w : World}
variable {ρ : Type} {c : List GI} {r : ρ}

/-- a call turns the world: slots whose roots it was handed are out of use meanwhile -/
theorem RelX.callWorld (R : RelX B G F H env ts w) {G' : Nat → Prop} {F' : Nat → List Res} {X : Nat → Nat → Prop} {w' : World}
    (hF : ∀ i, (F' i).Sublist (F i)) (hslot : ∀ i, i < env.length → (env.get i).e ≠ .undef → F' i = F i) (hout : ∀ i, env.length ≤ i → F' i = [])
    (hGG : ∀ b, G b → G' b) (hGn : ∀ b, G' b → ∀ j, ¬ blks (F' j) b) (hgl : ∀ b, G' b → b < w'.heap.size ∧ (B.G0 b ∨ B.w0.heap.size ≤ b ∨ blks B.R0 b))
    (hs : Turn X w w') (hG : ∀ b i, X b i → ¬ G b) (hXF : ∀ b i, X b i → ∀ j, j < env.length → (env.get j).e ≠ .undef → ¬ blks (F j) b)
    (hX : ∀ b i, b < B.w0.heap.size → X b i → B.X0 b i) : RelX B G' F' [] env ts w' := by
  refine { len := R.len, slot := fun i hi => ?_, held := fun k h hk => by simp at hk, out := fun i hi => hout i (by simpa using hi), nd := fun i => (R.nd i).sub (hF i),
           ap := fun i j hij r hr q hq => R.ap i j hij r ((hF i).subset hr) q ((hF j).subset hq),
           ok := fun i q hq => ⟨fun hg => hGn _ hg i ⟨q, hq, rfl⟩, Nat.lt_of_lt_of_le (R.ok i q ((hF i).subset hq)).2.1 hs.size, (R.ok i q ((hF i).subset hq)).2.2⟩,
           g0 := fun b hb => hGG b (R.g0 b hb), gl := hgl, turn := R.turn.trans hs (fun _ _ _ h => h) hX, chain := R.chain, lent := R.lent }
  have hroot : ∀ q t m x, (env.get q).e = .val t m x → q < env.length ∧ ∀ b i, X b i → ¬ blks (F q) b := fun q t m x h =>
    ⟨(R.rootVal h).1, fun b i hx => hXF b i hx q (R.rootVal h).1 (by rw [h]; simp)⟩
  have haddr : ∀ r ep p v f, aRel w env ts r ep p v f → aRel w' env ts r ep p v f := by
    rintro r ep p v f ⟨h1, h2, h3⟩
    refine ⟨h1, h2, fun he => ?_⟩
    obtain ⟨t, m, x, u, ad, hr, hu, hw, hv⟩ := h3 he
    obtain ⟨_, hrep⟩ := R.rootVal hr
    obtain ⟨_, _, _, _, _, _, hst⟩ := readV p t m x _ _ u ad hrep.1 hu hw
    exact ⟨t, m, x, u, ad, hr, hu, hst X w' hs.toSame (fun b i h => ⟨hG b i h, (hroot _ _ _ _ hr).2 b i h⟩), hv⟩
  have key : ∀ (e : Entry) (v : Value) (f : List Res), (∀ q ∈ f, ∀ i, ¬ X q.blk i) → slotRel G w env ts e v f → slotRel G' w' env ts e v f := by
    intro e
    induction e with
    | undef => intro v f _ h; exact h
    | val t m x => intro v f hf h; exact vrel_frame hs.toSame hGG hG hf h
    | addr r ep p => exact fun v f _ h => haddr r ep p v f h
    | cap e r ep ih => rintro v f _ ⟨h1, g, b, vs, p, h2, h3, h4⟩; exact ⟨h1, g, b, vs, p, ih _ _ (fun _ h => by simp at h) h2, haddr _ _ _ _ _ h3, h4⟩
    | pref r ep wc p =>
      rintro v f _ ⟨h1, h2, h2', h3⟩
      refine ⟨h1, h2, h2', fun he => ?_⟩
      obtain ⟨t, m, x, u, hr, hu, hc⟩ := h3 he
      refine ⟨t, m, x, u, hr, hu, fun ha => ?_⟩
      obtain ⟨c, hv, hl, hp | ⟨ad, hw, hcc⟩⟩ := hc ha
      · exact ⟨c, hv, hl, .inl hp⟩
      · obtain ⟨_, hrep⟩ := R.rootVal hr
        obtain ⟨c1, f, hc1, hr1, _, hb, hst⟩ := readV p t m x _ _ u ad hrep.1 hu hw
        refine ⟨c, hv, hl, .inr ⟨ad, hst X w' hs.toSame (fun b i h => ⟨hG b i h, (hroot _ _ _ _ hr).2 b i h⟩), hs.toSame.cellsAt hcc (fun j _ hx => ?_)⟩⟩
        rcases hb with hb | hb
        · exact hG _ _ hx hb
        · exact (hroot _ _ _ _ hr).2 _ _ hx hb
    | ref t x => rintro v f _ ⟨h1, ad, cs, h2, h3, h4, h5⟩; exact ⟨h1, ad, cs, h2, hGG _ h3, hs.toSame.cellsAt h4 (fun j _ hx => hG _ _ hx h3), rep_frame hs.toSame hGG hG _ _ _ _ _ (fun _ h => by simp at h) h5⟩
    | nq neg e => intro v f _ h; exact h
    | win e sz l h ih => rintro v f _ ⟨h1, A, n, cap, h2, h3⟩; exact ⟨h1, A, n, cap, ih _ _ (fun _ h => by simp at h) h2, h3⟩
    | tup es => rintro v f hf ⟨vs, rfl, h⟩; exact ⟨vs, rfl, tupRel_frame hs.toSame hGG hG _ _ _ hf h⟩
    | g c e ih =>
      intro v f hf h
      unfold slotRel at h ⊢
      split at h
      · exact ih v f hf h
      · exact h
  by_cases hu : (env.get i).e = .undef
  · rw [hu]; trivial
  · rw [hslot i hi hu]
    exact key _ _ _ (fun q hq j hx => hXF _ _ hx i hi hu ⟨q, hq, rfl⟩) (R.slot i hi)

/-- a slot that was out of use is in use again -/
theorem RelX.fill (R : RelX B G F [] env ts w) {d : Nat} {t : Ty} {m : Md} {x : t.den} {f : List Res} (hd : d < env.length) (hu : (env.get d).e = .undef)
    (hrel : vrel G w t m x (ts.getD d undef) f) (nd : ND f) (ap : ∀ j, j ≠ d → Apart f (F j))
    (ok : ∀ r ∈ f, ¬ G r.blk ∧ r.blk < w.heap.size ∧ (B.w0.heap.size ≤ r.blk ∨ ∃ q ∈ B.R0, q.blk = r.blk ∧ q.lo ≤ r.lo ∧ r.hi ≤ q.hi))
    (hl : ∀ l ∈ B.lents, l.1 = d → ∀ t' m' x', (Entry.val t m x : Entry) = .val (.ptr t') m' x' → ts.getD d undef = .pointer (some ⟨l.2.1, l.2.2, none⟩)) :
    RelX B G (upd F d f) [] (env.set d ⟨(env.get d).ep, (env.get d).wc, (env.get d).hs, .val t m x⟩) ts w := by
  let env' : Env := env.set d ⟨(env.get d).ep, (env.get d).wc, (env.get d).hs, .val t m x⟩
  have hsame : env'.get d = ⟨(env.get d).ep, (env.get d).wc, (env.get d).hs, .val t m x⟩ := by simp [env', Env.get, List.getD, hd]
  have hother : ∀ i, i ≠ d → env'.get i = env.get i := fun i h => by simp [env', Env.get, List.getD, List.getElem?_set_ne (Ne.symm h)]
  have hep : ∀ i, (env'.get i).ep = (env.get i).ep := fun i => by
    by_cases h : i = d
    · subst h; rw [hsame]
    · rw [hother i h]
  have hwc : ∀ i, (env'.get i).wc = (env.get i).wc := fun i => by
    by_cases h : i = d
    · subst h; rw [hsame]
    · rw [hother i h]
  have hfr : ∀ i ep p, fresh (env'.get i) ep p = fresh (env.get i) ep p := fun i ep p => by
    by_cases h : i = d
    · subst h; rw [hsame]; rfl
    · rw [hother i h]
  have hlen : env'.length = env.length := by simp [env']
  have haddr : ∀ r ep p v f, aRel w env ts r ep p v f → aRel w env' ts r ep p v f := by
    rintro r ep p v f ⟨h1, h2, h3⟩
    refine ⟨h1, by rw [hep]; exact h2, fun he => ?_⟩
    rw [hfr] at he
    obtain ⟨t', m', x', u, ad, hr, hu', hw, hv⟩ := h3 he
    by_cases h : r = d
    · subst h; rw [hu] at hr; cases hr
    · exact ⟨t', m', x', u, ad, by rw [hother r h]; exact hr, hu', hw, hv⟩
  have key : ∀ (e : Entry) (v : Value) (f : List Res), slotRel G w env ts e v f → slotRel G w env' ts e v f := by
    intro e
    induction e with
    | undef => intro v f h; exact h
    | val t m x => intro v f h; exact h
    | addr r ep p => exact haddr r ep p
    | cap e r ep ih => rintro v f ⟨h1, g, b, vs, p, h2, h3, h4⟩; exact ⟨h1, g, b, vs, p, ih _ _ h2, haddr _ _ _ _ _ h3, h4⟩
    | pref r ep wc p =>
      rintro v f ⟨h1, h2, h2', h3⟩
      refine ⟨h1, by rw [hep]; exact h2, by rw [hwc]; exact h2', fun he => ?_⟩
      rw [hfr] at he
      obtain ⟨t', m', x', u, hr, hu', hc⟩ := h3 he
      by_cases h : r = d
      · subst h; rw [hu] at hr; cases hr
      · exact ⟨t', m', x', u, by rw [hother r h]; exact hr, hu', by rw [hwc]; exact hc⟩
    | tup es => intro v f h; exact h
    | ref t x => intro v f h; exact h
    | nq neg e => intro v f h; exact h
    | win e sz l h ih => rintro v f ⟨h1, A, n, cap, h2, h3⟩; exact ⟨h1, A, n, cap, ih _ _ h2, h3⟩
    | g c e ih =>
      intro v f h
      unfold slotRel at h ⊢
      split at h
      · exact ih v f h
      · exact h
  refine { len := hlen.trans R.len, slot := fun i hi => ?_, held := fun k h hk => by simp at hk, out := fun i hi => ?_, nd := fun i => ?_, ap := fun i j hij => ?_, ok := fun i q hq => ?_,
           g0 := R.g0, gl := R.gl, turn := R.turn, chain := fun i g e' hi => ?_, lent := fun l hl' t' m' x' he => ?_ }
  · by_cases h : i = d
    · subst h
      show slotRel G w env' ts (env'.get i).e _ _
      rw [hsame, upd_same]
      exact hrel
    · show slotRel G w env' ts (env'.get i).e _ _
      rw [hother i h, upd_other F f h]
      exact key _ _ _ (R.slot i (hlen ▸ hi))
  · have hi' : env.length ≤ i := by simpa [hlen, env'] using hi
    rw [upd_other F f (by omega)]
    exact R.out i (by simpa using hi')
  · unfold upd; split
    · exact nd
    · exact R.nd i
  · unfold upd
    split <;> split
    · omega
    · rename_i h1 h2; exact ap j h2
    · rename_i h1 h2; exact fun r hr q hq => (ap i h1 q hq r hr).symm
    · exact R.ap i j hij
  · unfold upd at hq
    split at hq
    · exact ok q hq
    · exact R.ok i q hq
  · have hi' : (env.get i).e = .g g e' := by
      by_cases h : i = d
      · subst h
        have : (env'.get i).e = .g g e' := hi
        rw [hsame] at this; cases this
      · have : (env'.get i).e = .g g e' := hi
        rw [hother i h] at this; exact this
    intro a ha
    obtain ⟨h1, h2⟩ := R.chain i g e' hi' a ha
    show a.ep ≤ (env'.get a.slot).ep ∧ ((env'.get a.slot).ep = a.ep → gval (env'.get a.slot).e = some a.v)
    rw [hep]
    refine ⟨h1, fun h3 => ?_⟩
    have h4 := h2 h3
    by_cases h : a.slot = d
    · rw [h, hu] at h4; cases h4
    · rw [hother _ h]; exact h4
  · have he' : (env'.get l.1).e = .val (.ptr t') m' x' := he
    by_cases h : l.1 = d
    · rw [h] at he' ⊢
      rw [hsame] at he'
      exact hl l hl' h t' m' x' he'
    · rw [hother _ h] at he'
      exact R.lent l hl' t' m' x' he'

/-- something new is put into its slot -/
theorem set_new {d : Nat} {e : Entry} {v : Value} {f : List Res} {K : Unit → Env → Option ρ} (R : RelX B G F [] env ts w) (hc : Cur env c) (hg : gOf c = true) (hl : ∀ l ∈ B.lents, l.1 ≠ d)
    (hrel : slotRel G w env ts e v f) (hne : ∀ g e', e ≠ .g g e') (nd : ND f) (ap : ∀ j, Apart f (F j))
    (ok : ∀ r ∈ f, ¬ G r.blk ∧ r.blk < w.heap.size ∧ (B.w0.heap.size ≤ r.blk ∨ ∃ q ∈ B.R0, q.blk = r.blk ∧ q.lo ≤ r.lo ∧ r.hi ≤ q.hi))
    (h : (Rd.set d .all e).run c (some d) env K = some r) : ∃ F' env', K () env' = some r ∧ RelX B G F' [] env' (ts.set d v) w ∧ env'.length = env.length := by
  have hch : ∀ a ∈ c, a.ep ≤ (env.get a.slot).ep ∧ ((env.get a.slot).ep = a.ep → gval (env.get a.slot).e = some a.v) := fun a ha => by
    obtain ⟨h1, h2⟩ := hc a ha
    exact ⟨by omega, fun _ => h2⟩
  by_cases hd : d < env.length
  · rcases Rd.run_set h with ⟨rfl, h⟩ | ⟨_, _, h⟩
    · exact ⟨_, _, h, R.setSlot hd (slotRel_put hd _ _ _ hrel) nd (fun j _ => ap j) ok (fun g e' he => absurd he (hne g e')) (fun l hl' he => absurd he (hl l hl')), Env.length_put _ _⟩
    · refine ⟨_, _, h, R.setSlot hd ?_ nd (fun j _ => ap j) ok (fun g e' he => ?_) (fun l hl' he => absurd he (hl l hl')), Env.length_put _ _⟩
      · simp only [slotRel, hg]; exact slotRel_put hd _ _ _ hrel
      · cases he; exact hch
  · have e1 : ∀ e, env.put ⟨d, .all, e⟩ = env := fun e => by simp [Env.put, List.set_eq_of_length_le (Nat.le_of_not_lt hd)]
    have e2 : ts.set d v = ts := List.set_eq_of_length_le (by rw [← R.len]; exact Nat.le_of_not_lt hd)
    rw [e2]
    rcases Rd.run_set h with ⟨_, h⟩ | ⟨_, _, h⟩ <;> rw [e1] at h <;> exact ⟨_, _, h, R, rfl⟩

/-! ### Roots out of use, and back -/
def putU : Env → List Nat → Env
  | env, q :: qs => putU (env.put ⟨q, .all, .undef⟩) qs
  | env, [] => env

theorem putU_len : ∀ (qs : List Nat) (env : Env), (putU env qs).length = env.length
  | [], _ => rfl
  | q :: qs, env => by simp only [putU]; rw [putU_len qs, Env.length_put]

theorem putU_other : ∀ (qs : List Nat) (env : Env) (i : Nat), i ∉ qs → (putU env qs).get i = env.get i
  | [], _, _, _ => rfl
  | q :: qs, env, i, h => by
    simp only [List.mem_cons, not_or] at h
    simp only [putU]
    rw [putU_other qs _ i h.2, Env.get_put_other env ⟨q, .all, .undef⟩ h.1]

theorem putU_undef : ∀ (qs : List Nat) (env : Env) (i : Nat), i ∈ qs → i < env.length → ((putU env qs).get i).e = .undef
  | q :: qs, env, i, h, hl => by
    simp only [putU]
    by_cases hi : i ∈ qs
    · exact putU_undef qs _ i hi (by rw [Env.length_put]; exact hl)
    · rw [putU_other qs _ i hi]
      rcases List.mem_cons.1 h with rfl | h
      · rw [Env.get_put' env i _ hl]
      · exact absurd h hi

theorem RelX.out_of_use : ∀ (qs : List Nat) {env : Env}, RelX B G F H env ts w → (∀ q ∈ qs, q < env.length) → RelX B G F H (putU env qs) ts w
  | [], _, R, _ => R
  | q :: qs, env, R, h => by
    have R1 := R.setSlot (d := q) (e := .undef) (c := ts.getD q undef) (f := F q) (h q (by simp)) trivial (R.nd q) (fun j hj => R.ap q j (Ne.symm hj)) (fun r hr => R.ok q r hr) (fun _ _ h => by cases h) (fun _ _ _ _ _ _ h => by cases h)
    rw [set_getD_self] at R1
    have e : upd F q (F q) = F := by
      funext j
      unfold upd
      split
      · rename_i h; rw [h]
      · rfl
    rw [e] at R1
    exact RelX.out_of_use qs R1 (fun q' hq' => by rw [Env.length_put]; exact h q' (by simp [hq']))

theorem putU_set : ∀ (qs : List Nat) (env : Env) (q : Nat) (s : Sl), q ∉ qs → (putU env qs).set q s = putU (env.set q s) qs
  | [], _, _, _, _ => rfl
  | a :: qs, env, q, s, h => by
    simp only [List.mem_cons, not_or] at h
    simp only [putU]
    rw [putU_set qs _ q s h.2]
    congr 1
    simp only [Env.put]
    have : Env.get (List.set env q s) a = env.get a := by simp [Env.get, List.getD, List.getElem?_set_ne h.1]
    rw [this]
    exact List.set_comm _ _ (Ne.symm h.1)

theorem put_put (env : Env) (q : Nat) (e : Entry) (h : q < env.length) : (env.put ⟨q, .all, .undef⟩).set q ⟨((env.put ⟨q, .all, .undef⟩).get q).ep, ((env.put ⟨q, .all, .undef⟩).get q).wc, ((env.put ⟨q, .all, .undef⟩).get q).hs, e⟩ = env.put ⟨q, .all, e⟩ := by
  rw [Env.get_put' env q _ h]
  simp [Env.put, Up.on]

end
end Go.VL

namespace Go.VL

def resV : List Value → Value
  | [v] => v
  | vs => .tuple vs.toArray

def argTVs : List PK → List TV → List TV
  | k :: ks, v :: vs => (match k.io with | true => ptrTV v | false => v) :: argTVs ks vs
  | _, _ => []

def ioVals : List PK → List Value → List Value
  | k :: ks, v :: vs => match k.io with | true => v :: ioVals ks vs | false => ioVals ks vs
  | _, _ => []

def cellsOf (R : List Res) : Nat → Nat → Prop := fun b i => ∃ z ∈ R, z.blk = b ∧ z.lo ≤ i ∧ i < z.hi

/-- a call has come back -/
def RetOk (n : Nat) (G : Nat → Prop) (w : World) (R : List Res) (iov : List Value) (rs : List TV) (v : Value) (w' : World) : Prop :=
  ∃ G' rv fr fi, (∀ b, G b → G' b) ∧ (∀ b, G' b → b < w'.heap.size ∧ (G b ∨ w.heap.size ≤ b ∨ blks R b)) ∧ Turn (cellsOf R) w w' ∧ v = resV rv ∧
    tupRel G' w' (rs.take n) rv fr ∧ tupRel G' w' ((rs.drop n).map ptrTV) iov fi ∧ ND (fr ++ fi) ∧
    ∀ z ∈ fr ++ fi, ¬ G' z.blk ∧ z.blk < w'.heap.size ∧ (w.heap.size ≤ z.blk ∨ ∃ q ∈ R, q.blk = z.blk ∧ q.lo ≤ z.lo ∧ z.hi ≤ q.hi)

/-- the program's function f does what te says -/
def CallOk (P : Program) (f : Nat) (te : TE) : Prop :=
  (∃ fn, P.funcs[f]? = some fn ∧ fn.body.isNone = false ∧ (fn.name == "runtime.NumGoroutine") = false) ∧
  ∀ (w : World) (G : Nat → Prop) (as : List TV) (s : te.sig.S) (vs : List Value) (R : List Res) (q : te.sig.R), decAll (te.sig.ps.map (·.t)) as = some s → as.map (·.m) = te.sig.ps.map (·.m) →
    tupRel G w (argTVs te.sig.ps as) vs R → ND R → (∀ z ∈ R, ¬ G z.blk ∧ z.blk < w.heap.size) → (∀ b, G b → b < w.heap.size) → te.F s = some q →
    Calls P f vs.toArray w fun e w' => ∃ v, e = .returned v ∧ RetOk te.sig.rs.length G w R (ioVals te.sig.ps vs) (encAll te.sig.outs q) v w'

/-- a whole number among the sources -/
def intV (vs : List Value) (i : Nat) : Option Int := match vs[i]? with | some (.int .i64 n) => some n | _ => none

/-- an argument is what the layout says -/
def actV (w : World) (ps : List PK) (vs : List Value) : Lay → Value → Prop
  | .src j, v => vs[j]? = some v
  | .pt j p is, v => ∃ pk pv xs q ad, ps[j]? = some pk ∧ pk.io = true ∧ vs[j]? = some pv ∧ optAll (intV vs) is = some xs ∧ pathOf p xs = some q ∧ walkV w (.der :: q) (.ptr pk.t) [pv] = some ad ∧ v = .pointer (some ad)
  | .clo f js, v => ∃ pvs, optAll (fun j : Nat => vs[j]?) js = some pvs ∧ v = .func (.func f) #[] pvs.toArray

def actsV (w : World) (ps : List PK) (vs : List Value) : List Lay → List Value → Prop
  | [], [] => True
  | l :: ls, v :: acts => actV w ps vs l v ∧ actsV w ps vs ls acts
  | _, _ => False

/-- the program's function f, handed what the layout makes of sources, does what is said -/
def CallOkL (P : Program) (f : Nat) (t : TEL) : Prop :=
  (∃ fn, P.funcs[f]? = some fn ∧ fn.body.isNone = false ∧ (fn.name == "runtime.NumGoroutine") = false) ∧
  ∀ (w : World) (G : Nat → Prop) (as : List TV) (s : t.te.sig.S) (vs : List Value) (R : List Res) (q : t.te.sig.R) (acts : List Value), decAll (t.te.sig.ps.map (·.t)) as = some s → as.map (·.m) = t.te.sig.ps.map (·.m) →
    tupRel G w (argTVs t.te.sig.ps as) vs R → ND R → (∀ z ∈ R, ¬ G z.blk ∧ z.blk < w.heap.size) → (∀ b, G b → b < w.heap.size) → actsV w t.te.sig.ps vs t.lay acts → t.te.F s = some q →
    Calls P f acts.toArray w fun e w' => ∃ v, e = .returned v ∧ RetOk t.te.sig.rs.length G w R (ioVals t.te.sig.ps vs) (encAll t.te.sig.outs q) v w'

section
variable {P : Program} {C : Ctx} {B : Base} {G : Nat → Prop} {F : Nat → List Res} {H : List (TV × Value)} {env : Env} {ts : List Value} {w : World}
variable {ρ : Type} {c : List GI} {r : ρ}

theorem ND.perm {f g : List Res} (h : f.Perm g) : ND f ↔ ND g := by
  unfold ND
  exact h.pairwise_iff fun h => Ne.symm h

theorem held_tup : ∀ (H : List (TV × Value)) (n : Nat), (∀ k h, H[k]? = some h → vrel G w h.1.t h.1.m h.1.x h.2 (F (n + k))) → tupRel G w (H.map (·.1)) (H.map (·.2)) (flatF F H.length n)
  | [], _, _ => rfl
  | h :: H, n, hh => ⟨F n, flatF F H.length (n + 1), hh 0 h rfl, held_tup H (n + 1) (fun k h' hk => by
      have := hh (k + 1) h' hk
      rwa [show n + (k + 1) = n + 1 + k by omega] at this), rfl⟩

theorem merge_rel {GA : Nat → Prop} : ∀ (ks : List PK) (os : List Operand) (us vs ws : List TV) (fo fi : List Res), tupRel GA w us ((selV kO ks os).map fun a => evalO ts a.2) fo →
    tupRel GA w vs ((selV kP ks os).map fun a => evalO ts a.2) [] → tupRel GA w (ws.map ptrTV) ((selV (·.io) ks os).map fun a => evalO ts a.2) fi → us.map (·.m) = (selV kO ks os).map (·.1.m) → (∀ v ∈ vs, v.m = .s) →
    ws.map (·.m) = (selV (·.io) ks os).map (·.1.m) → ks.length = os.length →
    ∃ f, tupRel GA w (argTVs ks (merge ks us vs ws)) (os.map (evalO ts)) f ∧ f.Perm (fo ++ fi) ∧ (merge ks us vs ws).map (·.m) = ks.map (·.m) ∧ ioVals ks (os.map (evalO ts)) = (selV (·.io) ks os).map fun a => evalO ts a.2
  | [], [], us, vs, ws, fo, fi, h1, h2, h3, _, _, _, _ => by
    cases us with
    | cons _ _ => exact h1.elim
    | nil =>
      cases ws with
      | cons _ _ => exact h3.elim
      | nil =>
        have e1 : fo = [] := h1
        have e2 : fi = [] := h3
        subst e1 e2
        exact ⟨[], rfl, List.Perm.refl _, rfl, rfl⟩
  | k :: ks, o :: os, us, vs, ws, fo, fi, h1, h2, h3, m1, m2, m3, hl => by
    have hl' : ks.length = os.length := by simpa using hl
    cases hio : k.io with
    | true =>
      have e1 : kO k = false := by simp [kO, hio]
      have e2 : kP k = false := by simp [kP, hio]
      simp only [selV, e1, e2, hio] at h1 h2 h3 m1 m3 ⊢
      cases ws with
      | nil => exact h3.elim
      | cons v ws =>
        obtain ⟨f1, f2, hv, h3, rfl⟩ := h3
        simp only [List.map_cons, List.cons.injEq] at m3
        obtain ⟨f, k1, k2, k3, k4⟩ := merge_rel ks os us vs ws fo f2 h1 h2 h3 m1 m2 m3.2 hl'
        refine ⟨f1 ++ f, ?_, ?_, ?_, ?_⟩
        · simp only [merge, hio, argTVs, List.map_cons]
          exact ⟨f1, f, hv, k1, rfl⟩
        · exact (List.Perm.append_left f1 k2).trans (by rw [← List.append_assoc, ← List.append_assoc]; exact List.Perm.append_right _ List.perm_append_comm)
        · simp [merge, hio, k3, m3.1]
        · simp [ioVals, hio, k4]
    | false =>
      cases hm : k.m.plain with
      | true =>
        have e1 : kO k = false := by simp [kO, hm]
        have e2 : kP k = true := by simp [kP, hio, hm]
        simp only [selV, e1, e2, hio] at h1 h2 h3 m1 m3 ⊢
        cases vs with
        | nil => exact h2.elim
        | cons v vs =>
          obtain ⟨f1, f2, hv, h2, he⟩ := h2
          have he' : f1 = [] ∧ f2 = [] := by simpa using he.symm
          obtain ⟨rfl, rfl⟩ := he'
          obtain ⟨f, k1, k2, k3, k4⟩ := merge_rel ks os us vs ws fo fi h1 h2 h3 m1 (fun v hv => m2 v (by simp [hv])) m3 hl'
          refine ⟨f, ?_, k2, ?_, ?_⟩
          · simp only [merge, hio, hm, argTVs, List.map_cons]
            exact ⟨[], f, hv, k1, rfl⟩
          · simp only [merge, hio, hm, List.map_cons, k3]; rw [m2 v (by simp), plain_md hm]
          · simp [ioVals, hio, k4]
      | false =>
        have e1 : kO k = true := by simp [kO, hio, hm]
        have e2 : kP k = false := by simp [kP, hm]
        simp only [selV, e1, e2, hio] at h1 h2 h3 m1 m3 ⊢
        cases us with
        | nil => exact h1.elim
        | cons v us =>
          obtain ⟨f1, f2, hv, h1, rfl⟩ := h1
          simp only [List.map_cons, List.cons.injEq] at m1
          obtain ⟨f, k1, k2, k3, k4⟩ := merge_rel ks os us vs ws f2 fi h1 h2 h3 m1.2 m2 m3 hl'
          refine ⟨f1 ++ f, ?_, ?_, ?_, ?_⟩
          · simp only [merge, hio, hm, argTVs, List.map_cons]
            exact ⟨f1, f, hv, k1, rfl⟩
          · rw [List.append_assoc]; exact List.Perm.append_left f1 k2
          · simp [merge, hio, hm, k3, m1.1]
          · simp [ioVals, hio, k4]
  | [], _ :: _, _, _, _, _, _, _, _, _, _, _, _, hl => by simp at hl
  | _ :: _, [], _, _, _, _, _, _, _, _, _, _, _, hl => by simp at hl

theorem io_marks : ∀ (as : List (PK × Operand)) (ws vs : List TV) (es : List Entry) (ds : List IOD), IOall G F env ts w as ws vs es ds → ws.map (·.m) = as.map (·.1.m)
  | [], [], [], [], [], _ => rfl
  | a :: as, v :: ws, v' :: vs, e :: es, d :: ds, h => by
    simp only [List.map_cons, h.1.v_eq, io_marks as ws vs es ds h.2]
  | [], _ :: _, _, _, _, h | _ :: _, [], _, _, _, h => h.elim
  | [], [], _ :: _, _, _, h | [], [], [], _ :: _, _, h | [], [], [], [], _ :: _, h => h.elim
  | _ :: _, _ :: _, [], _, _, h | _ :: _, _ :: _, _ :: _, [], _, h | _ :: _, _ :: _, _ :: _, _ :: _, [], h => h.elim

/-- the pointers' own cells are among what comes back -/
theorem io_own {G' : Nat → Prop} {w' : World} : ∀ (as : List (PK × Operand)) (ws vs : List TV) (es : List Entry) (ds : List IOD) (fi : List Res), IOall G F env ts w as ws vs es ds →
    tupRel G' w' (vs.map ptrTV) (as.map fun a => evalO ts a.2) fi → ∀ d ∈ ds, ∃ y ∈ fi, y.blk = d.b
  | [], [], [], [], [], _, _, _, d, hd => by simp at hd
  | a :: as, v :: ws, v' :: vs, e :: es, d' :: ds, fi, h, k, d, hd => by
    obtain ⟨f1, f2, hv, k, rfl⟩ := k
    rcases List.mem_cons.1 hd with rfl | hd
    · have hv : vrel G' w' (.ptr v'.t) (.o v'.m) (some v'.x) (evalO ts a.2) f1 := hv
      rw [h.1.val_eq] at hv
      have := hv.1
      simp only [unpack, Ty.agg, if_false, Bool.false_eq_true] at this
      obtain ⟨y, b, o, cc, f, _, he, rfl, _⟩ := this
      simp only [List.cons.injEq, Value.pointer.injEq, Option.some.injEq, Addr.mk.injEq, and_true] at he
      exact ⟨⟨b, o, o + v'.t.sz⟩, by simp, he.1.symm⟩
    · obtain ⟨y, hy, he⟩ := io_own as ws vs es ds f2 h.2 k d hd
      exact ⟨y, by simp [hy], he⟩
  | [], _ :: _, _, _, _, _, h, _, _, _ | _ :: _, [], _, _, _, _, h, _, _, _ => h.elim
  | [], [], _ :: _, _, _, _, h, _, _, _ | [], [], [], _ :: _, _, _, h, _, _, _ | [], [], [], [], _ :: _, _, h, _, _, _ => h.elim
  | _ :: _, _ :: _, [], _, _, _, h, _, _, _ | _ :: _, _ :: _, _ :: _, [], _, _, h, _, _, _ | _ :: _, _ :: _, _ :: _, _ :: _, [], _, h, _, _, _ => h.elim

/-- the roots are in use again -/
theorem refill {G' : Nat → Prop} {w' : World} {X : Nat → Nat → Prop} (hGG : ∀ b, G b → G' b) (hs : Same X w w') (hXG : ∀ b' i, X b' i → ¬ G b')
    (hL : ∀ l ∈ B.lents, ∀ t m x, (env.get l.1).e = .val (.ptr t) m x → ts.getD l.1 undef = .pointer (some ⟨l.2.1, l.2.2, none⟩)) :
    ∀ (as : List (PK × Operand)) (ws vs : List TV) (es : List Entry) (ds : List IOD) {F' : Nat → List Res} {E : Env} (fi : List Res), IOall G F env ts w as ws vs es ds → (ds.map (·.r)).Nodup → E.length = env.length →
    (∀ d ∈ ds, ∀ b' i, X b' i → cut d.b d.o d.u.t.sz d.f b' i ∨ ¬ blks (F d.r) b') → RelX B G' F' [] (putU E (ds.map (·.r))) ts w' → (∀ d ∈ ds, F' d.r = d.pre ++ d.post) →
    tupRel G' w' (vs.map ptrTV) (as.map fun a => evalO ts a.2) fi → ND fi → (∀ z ∈ fi, ∀ j, ∀ q ∈ F' j, q.blk = z.blk → ∃ d ∈ ds, z.blk = d.b) →
    (∀ z ∈ fi, ¬ G' z.blk ∧ z.blk < w'.heap.size ∧ (B.w0.heap.size ≤ z.blk ∨ ∃ q ∈ B.R0, q.blk = z.blk ∧ q.lo ≤ z.lo ∧ z.hi ≤ q.hi)) →
    ∃ F'', RelX B G' F'' [] (putAll E (ds.map (·.r)) es) ts w' ∧ ∀ j, ∀ z ∈ F'' j, z ∈ F' j ∨ z ∈ fi
  | [], [], [], [], [], F', E, fi, _, _, _, _, R, _, _, _, _, _ => ⟨F', R, fun j z hz => .inl hz⟩
  | a :: as, v :: ws, v' :: vs, e :: es, d :: ds, F', E, fi, h, hn, hE, hXc, R, hF', k, nd, hA, ok => by
    obtain ⟨f1, f2, hv, k, rfl⟩ := k
    have hown := io_own as ws vs es ds f2 h.2 k
    simp only [List.map_cons] at hn R ⊢
    obtain ⟨hn1, hn2⟩ := List.nodup_cons.1 hn
    have hd := h.1
    have hv : vrel G' w' (.ptr v'.t) (.o v'.m) (some v'.x) (evalO ts a.2) f1 := hv
    rw [hd.val_eq] at hv
    have hr := hv.1
    simp only [unpack, Ty.agg, if_false, Bool.false_eq_true] at hr
    obtain ⟨y, b, o, cc, f', hy, he, rfl, _, hcc, hrep⟩ := hr
    simp only [List.cons.injEq, Value.pointer.injEq, Option.some.injEq, Addr.mk.injEq, and_true] at he hy
    obtain ⟨rfl, rfl⟩ := he
    subst hy
    obtain ⟨t, m, x, m2, x2, hroot, rfl, hback⟩ := hd.back
    have hnew := hback G' X w' cc f' hGG hs hXG (hXc d (by simp)) hcc hrep
    obtain ⟨n1, n2, n3⟩ := ND.append.1 nd
    have n1' := List.pairwise_cons.1 n1
    have hf'no : ∀ z ∈ f', ∀ d' ∈ d :: ds, z.blk ≠ d'.b := by
      intro z hz d' hd' he
      rcases List.mem_cons.1 hd' with rfl | hd'
      · exact n1'.1 z hz he.symm
      · obtain ⟨y, hy, hyb⟩ := hown d' hd'
        exact n3 z (by simp [hz]) y hy (he.trans hyb.symm)
    have hf'ap : ∀ j, Apart f' (F' j) := fun j z hz q hq he => by
      obtain ⟨d', hd', he'⟩ := hA z (by simp [hz]) j q hq he.symm
      exact hf'no z hz d' hd' he'
    have hFd := hF' d (by simp)
    have ndF := R.nd d.r
    rw [hFd] at ndF
    obtain ⟨p1, p2, p3⟩ := ND.append.1 ndF
    have hsub : ∀ z ∈ d.pre ++ d.post, z ∈ F' d.r := fun z hz => by rw [hFd]; exact hz
    have hmem : ∀ z ∈ d.pre ++ (f' ++ d.post), z ∈ F' d.r ∨ z ∈ f' := fun z hz => by
      rw [hFd]
      simp at hz ⊢
      rcases hz with h | h | h <;> simp [h]
    have hlt : d.r < E.length := by rw [hE]; exact hd.lt
    have R1 := R.fill (d := d.r) (t := t) (m := m2) (x := x2) (f := d.pre ++ (f' ++ d.post)) (by rw [putU_len]; exact hlt) (putU_undef _ _ _ (by simp) hlt) hnew
      (ND.append.2 ⟨p1, ND.append.2 ⟨n1'.2, p2, fun z hz q hq => hf'ap d.r z hz q (hsub q (by simp [hq]))⟩, fun z hz q hq => by
        rcases List.mem_append.1 hq with hq | hq
        · exact (hf'ap d.r q hq z (hsub z (by simp [hz]))).symm
        · exact p3 z hz q hq⟩)
      (fun j hj z hz q hq => by
        rcases hmem z hz with h | h
        · exact R.ap d.r j (Ne.symm hj) z h q hq
        · exact hf'ap j z h q hq)
      (fun z hz => by
        rcases hmem z hz with h | h
        · exact R.ok d.r z h
        · exact ok z (by simp [h]))
      (fun l hl hlr t' m' x' he => by
        cases he
        have := hL l hl t' m x (by rw [hlr]; exact hroot)
        rw [hlr] at this
        exact this)
    simp only [putU] at R1
    rw [putU_other _ _ _ hn1, putU_set _ _ _ _ hn1, put_put E d.r _ hlt] at R1
    obtain ⟨F'', R2, hF''⟩ := refill hGG hs hXG hL as ws vs es ds f2 h.2 hn2 (by rw [Env.length_put]; exact hE) (fun d' hd' => hXc d' (by simp [hd'])) R1
      (fun d' hd' => by
        rw [upd_other F' _ (fun he => hn1 (List.mem_map.2 ⟨d', hd', he⟩))]
        exact hF' d' (by simp [hd'])) k n2
      (fun z hz j q hq he => by
        have hz1 : ∀ y ∈ (⟨d.b, d.o, d.o + v'.t.sz⟩ : Res) :: f', z.blk ≠ y.blk := fun y hy => (n3 y hy z hz).symm
        have hq' : q ∈ F' j ∨ q ∈ F' d.r ∨ q ∈ f' := by
          unfold upd at hq
          split at hq
          · exact .inr (hmem q hq)
          · exact .inl hq
        have fin : ∀ j', q ∈ F' j' → ∃ d' ∈ ds, z.blk = d'.b := fun j' hq => by
          obtain ⟨d', hd', he'⟩ := hA z (by simp [hz]) j' q hq he
          rcases List.mem_cons.1 hd' with rfl | hd'
          · exact absurd he' (hz1 ⟨d'.b, d'.o, d'.o + v'.t.sz⟩ (by simp))
          · exact ⟨d', hd', he'⟩
        rcases hq' with h | h | h
        · exact fin j h
        · exact fin d.r h
        · exact absurd he.symm (hz1 q (by simp [h])))
      (fun z hz => ok z (by simp [hz]))
    refine ⟨F'', R2, fun j z hz => ?_⟩
    rcases hF'' j z hz with h | h
    · unfold upd at h
      split at h
      · rename_i hj
        rcases hmem z h with h | h
        · exact .inl (hj ▸ h)
        · exact .inr (by simp [h])
      · exact .inl h
    · exact .inr (by simp [h])
  | [], _ :: _, _, _, _, _, _, _, h, _, _, _, _, _, _, _, _, _ | _ :: _, [], _, _, _, _, _, _, h, _, _, _, _, _, _, _, _, _ => h.elim
  | [], [], _ :: _, _, _, _, _, _, h, _, _, _, _, _, _, _, _, _ | [], [], [], _ :: _, _, _, _, _, h, _, _, _, _, _, _, _, _, _ | [], [], [], [], _ :: _, _, _, _, h, _, _, _, _, _, _, _, _, _ => h.elim
  | _ :: _, _ :: _, [], _, _, _, _, _, h, _, _, _, _, _, _, _, _, _ | _ :: _, _ :: _, _ :: _, [], _, _, _, _, h, _, _, _, _, _, _, _, _, _ | _ :: _, _ :: _, _ :: _, _ :: _, [], _, _, _, h, _, _, _, _, _, _, _, _, _ => h.elim

end
end Go.VL
