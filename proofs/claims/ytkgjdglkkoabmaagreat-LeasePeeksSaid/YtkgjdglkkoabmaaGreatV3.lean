import Derived.Test.YtkgjdglkkoabmaaGreatV2
import Derived.Laws.Sem
import Derived.Below
import Derived.ChangeArms
import Derived.OpenShut
import Derived.WideShapes
import Derived.ChangeOld

namespace Go.VL
section
variable {P : Program} {C : Ctx} {B : Base} {G : Nat → Prop} {F : Nat → List Res} {H : List (TV × Value)} {env : Env} {ts : List Value} {w : World}
variable {ρ : Type} {c : List GI} {r : ρ}

theorem tupRel_noS {G G' : Nat → Prop} {w : World} : ∀ (es : List TV) (vs : List Value) (f : List Res), (∀ e ∈ es, noS e.t e.m = true) → tupRel G w es vs f → tupRel G' w es vs f
  | [], [], _, _, h => h
  | e :: es, v :: vs, f, hn, h => by
    obtain ⟨f1, f2, hv, h, rfl⟩ := h
    exact ⟨f1, f2, ⟨rep_noS _ _ _ _ _ (hn e (by simp)) hv.1, hv.2⟩, tupRel_noS es vs f2 (fun e he => hn e (by simp [he])) h, rfl⟩
  | [], _ :: _, _, _, h => h.elim
  | _ :: _, [], _, _, h => h.elim

theorem encAll_md : ∀ (l : List (Ty × Md)) (x : denAll (l.map (·.1))), ∀ v ∈ encAll l x, ∃ o ∈ l, v.t = o.1 ∧ v.m = o.2
  | [], _, v, h => by simp [encAll] at h
  | (t, m) :: l, x, v, h => by
    simp only [encAll, List.mem_cons] at h
    rcases h with rfl | h
    · exact ⟨(t, m), by simp, rfl, rfl⟩
    · obtain ⟨o, ho, h⟩ := encAll_md l x.2 v h
      exact ⟨o, by simp [ho], h⟩

theorem tupRel_len {G : Nat → Prop} {w : World} : ∀ (es : List TV) (vs : List Value) (f : List Res), tupRel G w es vs f → es.length = vs.length
  | [], [], _, _ => rfl
  | e :: es, v :: vs, f, h => by
    obtain ⟨f1, f2, hv, h, rfl⟩ := h
    simp [tupRel_len es vs f2 h]
  | [], _ :: _, _, h => h.elim
  | _ :: _, [], _, h => h.elim

theorem ds_inj : ∀ (ds : List IOD), (ds.map (·.r)).Nodup → ∀ d ∈ ds, ∀ d' ∈ ds, d.r = d'.r → d = d'
  | [], _, d, hd, _, _, _ => by simp at hd
  | a :: ds, h, d, hd, d', hd', he => by
    simp only [List.map_cons] at h
    obtain ⟨h1, h2⟩ := List.nodup_cons.1 h
    rcases List.mem_cons.1 hd with k | k <;> rcases List.mem_cons.1 hd' with k' | k'
    · rw [k, k']
    · exact absurd (List.mem_map.2 ⟨d', k', by rw [← he, k]⟩) h1
    · exact absurd (List.mem_map.2 ⟨d, k, by rw [he, k']⟩) h1
    · exact ds_inj ds h2 d k d' k' he

theorem putAll_len : ∀ (qs : List Nat) (es : List Entry) (env : Env), (putAll env qs es).length = env.length
  | [], _, _ => by simp [putAll]
  | _ :: _, [], _ => by simp [putAll]
  | q :: qs, e :: es, env => by simp only [putAll]; rw [putAll_len qs es, Env.length_put]

/-- behind a call references that do not run through the places that it was handed are good still -/
theorem RelX.behind {X : Nat → Nat → Prop} {G' : Nat → Prop} {F' : Nat → List Res} {env1 env2 : Env} {w' : World} (R : RelX B G F H env ts w) (R1 : RelX B G' F' [] env1 ts w') (hl0 : env1.length = env.length) (hl : env2.length = env1.length)
    (hlike : ∀ i, (env2.get i).ep = (env1.get i).ep ∧ (env2.get i).e = (env1.get i).e)
    (hsame : ∀ i, (env1.get i).e = (env.get i).e ∨ ∃ t m x, (env1.get i).e = .val t m x) (hs : Same X w w') (hGG : ∀ b, G b → G' b) (hXG : ∀ b i, X b i → ¬ G b)
    (hroot : ∀ r, (env2.get r = env.get r ∧ ∀ t m x, (env.get r).e = .val t m x → ∀ b i, X b i → ¬ blks (F r) b) ∨ ∃ t m x m2 x2 q, (env.get r).e = .val t m x ∧ (∃ s, env2.get r = Up.on ⟨s, .at q, .val t m2 x2⟩ (env.get r)) ∧
      ∀ (p : List Step) (u : TV), kills q p.dropLast = false → getP p t m x = some u → (∃ u', getP p t m2 x2 = some u' ∧ u'.t = u.t) ∧
        ∀ ad, walkV w p t (unpack t (ts.getD r undef)) = some ad → walkV w' p t (unpack t (ts.getD r undef)) = some ad ∧ (kills q p = false → u.t.single = true → ∀ v, w.cell? ad = some v → w'.cell? ad = some v)) :
    RelX B G' F' [] env2 ts w' := by
  have haddr : ∀ r ep p v f, aRel w env ts r ep p v f → aRel w' env2 ts r ep p v f := by
    rintro r ep p v f ⟨h1, h2, h3⟩
    rcases hroot r with ⟨he, hx⟩ | ⟨t, m, x, m2, x2, q, e1, ⟨s, e2⟩, hk⟩
    · rw [aRel, he]
      refine ⟨h1, h2, fun hf => ?_⟩
      obtain ⟨t, m, x, u, ad, hr, hu, hw, hv⟩ := h3 hf
      obtain ⟨_, hrep⟩ := R.rootVal hr
      obtain ⟨_, _, _, _, _, _, hst⟩ := readV p t m x _ _ u ad hrep.1 hu hw
      exact ⟨t, m, x, u, ad, hr, hu, hst X w' hs (fun b i h => ⟨hXG b i h, hx t m x hr b i h⟩), hv⟩
    · rw [aRel, e2]
      refine ⟨h1, Nat.le_trans h2 (Up.on_ep _ _), fun hf => ?_⟩
      obtain ⟨k1, k2⟩ := fresh_at h2 hf
      obtain ⟨t', m', x', u, ad, hr, hu, hw, hv⟩ := h3 k2
      rw [e1] at hr
      cases hr
      obtain ⟨⟨u', hu', _⟩, hk⟩ := hk p u k1 hu
      exact ⟨t, m2, x2, u', ad, by rw [Up.on_e], hu', (hk ad hw).1, hv⟩
  have key : ∀ (e : Entry) (v : Value), slotRel G w env ts e v [] → slotRel G' w' env2 ts e v [] := by
    intro e
    induction e with
    | undef => intro v h; exact h
    | val t m x => intro v h; exact vrel_frame hs hGG hXG (fun _ h => by simp at h) h
    | tup es => rintro v ⟨vs, rfl, h⟩; exact ⟨vs, rfl, tupRel_frame hs hGG hXG _ _ _ (fun _ h => by simp at h) h⟩
    | ref t x => rintro v ⟨h1, ad, cs, h2, h3, h4, h5⟩; exact ⟨h1, ad, cs, h2, hGG _ h3, hs.cellsAt h4 (fun j _ hx => hXG _ _ hx h3), rep_frame hs hGG hXG _ _ _ _ _ (fun _ h => by simp at h) h5⟩
    | nq neg e => intro v h; exact h
    | addr r ep p => exact fun v h => haddr r ep p v [] h
    | cap e r ep ih => rintro v ⟨h1, g, b, vs, p, h2, h3, h4⟩; exact ⟨h1, g, b, vs, p, ih _ h2, haddr _ _ _ _ _ h3, h4⟩
    | win e sz l h ih => rintro v ⟨h1, A, n, cap, h2, h3⟩; exact ⟨h1, A, n, cap, ih _ h2, h3⟩
    | g c e ih =>
      intro v h
      unfold slotRel at h ⊢
      split at h
      · exact ih v h
      · exact h
    | pref r ep wc p =>
      rintro v ⟨h1, h2, h2', h3⟩
      rcases hroot r with ⟨he, hx⟩ | ⟨t, m, x, m2, x2, q, e1, ⟨s, e2⟩, hk⟩
      · unfold slotRel
        rw [he]
        refine ⟨h1, h2, h2', fun hf => ?_⟩
        obtain ⟨t, m, x, u, hr, hu, hc⟩ := h3 hf
        refine ⟨t, m, x, u, hr, hu, fun ha => ?_⟩
        obtain ⟨c, hv, hl, hp | ⟨ad, hw, hcc⟩⟩ := hc ha
        · exact ⟨c, hv, hl, .inl hp⟩
        · obtain ⟨_, hrep⟩ := R.rootVal hr
          obtain ⟨c1, f, hc1, hr1, _, hb, hst⟩ := readV p t m x _ _ u ad hrep.1 hu hw
          refine ⟨c, hv, hl, .inr ⟨ad, hst X w' hs (fun b i h => ⟨hXG b i h, hx t m x hr b i h⟩), hs.cellsAt hcc (fun j _ hxx => ?_)⟩⟩
          rcases hb with hb | hb
          · exact hXG _ _ hxx hb
          · exact hx t m x hr _ _ hxx hb
      · unfold slotRel
        rw [e2]
        refine ⟨h1, Nat.le_trans h2 (Up.on_ep _ _), Nat.le_trans h2' (by rw [Up.on_wc]; simp), fun hf => ?_⟩
        obtain ⟨k1, k2⟩ := fresh_at h2 hf
        obtain ⟨t', m', x', u, hr, hu, hc⟩ := h3 k2
        rw [e1] at hr
        cases hr
        obtain ⟨⟨u', hu', htt⟩, hwk⟩ := hk p u (kills_drop q p k1) hu
        refine ⟨t, m2, x2, u', by rw [Up.on_e], hu', fun ha => ?_⟩
        have hsing : u.t.single = true := by
          simp only [aliasOk, Bool.or_eq_true, beq_iff_eq, Up.on_wc] at ha
          rcases ha with h | h
          · rw [← htt]; exact h
          · omega
        obtain ⟨c, hv, hl, hp⟩ := hc (by simp [aliasOk, hsing])
        refine ⟨c, by rw [htt]; exact hv, by rw [htt]; exact hl, ?_⟩
        rcases hp with hp | ⟨ad, hw, hcc⟩
        · exact .inl hp
        · refine .inr ⟨ad, (hwk ad hw).1, fun j v' hj => ?_⟩
          have hl1 : c.length = 1 := by rw [hl]; cases hut : u.t <;> rw [hut] at hsing <;> simp [Ty.single, Ty.sz] at hsing ⊢
          have hj0 : j = 0 := by have := (List.getElem?_eq_some_iff.1 hj).1; omega
          have hcell := hcc j v' hj
          subst hj0
          have hz : ad.add 0 = ad := by simp [Addr.add]
          rw [hz] at hcell ⊢
          exact (hwk ad hw).2 k1 hsing _ hcell
  have fin : ∀ (e : Entry) (v : Value) (f f' : List Res), slotRel G w env ts e v f → slotRel G' w' env1 ts e v f' → slotRel G' w' env2 ts e v f' := by
    intro e
    induction e with
    | undef => intro v f f' _ h; exact h
    | val t m x => intro v f f' _ h; exact h
    | tup es => intro v f f' _ h; exact h
    | ref t x => rintro v f f' ⟨h1, h2⟩ ⟨k1, _⟩; subst h1 k1; exact key _ _ ⟨rfl, h2⟩
    | nq neg e => rintro v f f' ⟨h1, h2⟩ ⟨k1, _⟩; subst h1 k1; exact key _ _ ⟨rfl, h2⟩
    | addr r ep p => rintro v f f' ⟨h1, h2⟩ ⟨k1, _⟩; subst h1 k1; exact key _ _ ⟨rfl, h2⟩
    | cap e r ep _ => rintro v f f' ⟨h1, h2⟩ ⟨k1, _⟩; subst h1 k1; exact key _ _ ⟨rfl, h2⟩
    | win e sz l h _ => rintro v f f' ⟨h1, h2⟩ ⟨k1, _⟩; subst h1 k1; exact key _ _ ⟨rfl, h2⟩
    | pref r ep wc p => rintro v f f' ⟨h1, h2⟩ ⟨k1, _⟩; subst h1 k1; exact key _ _ ⟨rfl, h2⟩
    | g c e ih =>
      intro v f f' hb h
      unfold slotRel at hb h ⊢
      split at h
      · rename_i hg
        rw [hg] at hb
        exact ih v f f' hb h
      · exact h
  refine { len := hl.trans R1.len, slot := fun i hi => ?_, held := fun k h hk => by simp at hk, out := fun i hi => R1.out i (by rw [← hl]; exact hi), nd := R1.nd, ap := R1.ap, ok := R1.ok, g0 := R1.g0, gl := R1.gl, turn := R1.turn,
           chain := fun i c e he a ha => ?_, lent := fun l hl' t m x he => R1.lent l hl' t m x (by rw [← (hlike l.1).2]; exact he) }
  · have hi1 : i < env1.length := hl ▸ hi
    rw [(hlike i).2]
    have h1 := R1.slot i hi1
    rcases hsame i with h | ⟨t, m, x, h⟩
    · have h0 := R.slot i (hl0 ▸ hi1)
      rw [← h] at h0
      exact fin _ _ _ _ h0 h1
    · rw [h] at h1 ⊢; exact h1
  · rw [(hlike i).2] at he
    rw [(hlike a.slot).1, (hlike a.slot).2]
    exact R1.chain i c e he a ha

theorem putAllB_len : ∀ (pls : List (Nat × Nat × List Step)) (es : List Entry) (env : Env), (putAllB env pls es).length = env.length
  | [], _, _ => by simp [putAllB]
  | _ :: _, [], _ => by simp [putAllB]
  | pl :: pls, e :: es, env => by simp only [putAllB]; rw [putAllB_len pls es, Env.length_put]

theorem putAllB_spec {env : Env} : ∀ (pls : List (Nat × Nat × List Step)) (vs : List TV) (es : List Entry) (e1 e2 : Env), e1.length = env.length → e2.length = env.length → (pls.map (·.1)).Nodup → IOpost env pls vs es →
    (∀ i ∈ pls.map (·.1), i < env.length ∧ e1.get i = env.get i ∧ e2.get i = env.get i) → ∀ i,
    (i ∉ pls.map (·.1) → (putAll e1 (pls.map (·.1)) es).get i = e1.get i ∧ (putAllB e2 pls es).get i = e2.get i) ∧
    (i ∈ pls.map (·.1) → ∃ t m x p v' n, (env.get i).e = .val t m x ∧ setP p t m x v' = some n ∧ (putAll e1 (pls.map (·.1)) es).get i = Up.on ⟨i, .all, .val t n.1 n.2⟩ (env.get i) ∧
      (putAllB e2 pls es).get i = Up.on ⟨i, backB p, .val t n.1 n.2⟩ (env.get i) ∧ ∃ k : Nat, (pls.map fun pl => (pl.1, pl.2.2))[k]? = some (i, p) ∧ es[k]? = some (Entry.val t n.1 n.2))
  | [], _, _, e1, e2, _, _, _, _, _, i => ⟨fun _ => by simp [putAll, putAllB], fun h => by simp at h⟩
  | pl :: pls, [], es, _, _, _, _, _, h, _, _ => by cases es <;> exact h.elim
  | pl :: pls, v :: vs, [], _, _, _, _, _, h, _, _ => h.elim
  | pl :: pls, v :: vs, e :: es, e1, e2, l1, l2, hn, ⟨⟨t, m, x, n, k1, k2, k3⟩, hp⟩, hh, i => by
    have hn' := List.nodup_cons.1 hn
    obtain ⟨q1, q2, q3⟩ := hh pl.1 (by simp)
    have ih := putAllB_spec pls vs es (e1.put ⟨pl.1, .all, e⟩) (e2.put ⟨pl.1, backB pl.2.2, e⟩) (by rw [Env.length_put, l1]) (by rw [Env.length_put, l2]) hn'.2 hp (fun j hj => by
      have hne : j ≠ pl.1 := fun h => hn'.1 (by rw [h] at hj; exact hj)
      obtain ⟨j1, j2, j3⟩ := hh j (by simp only [List.map_cons, List.mem_cons]; exact .inr hj)
      exact ⟨j1, by rw [Env.get_put_other e1 ⟨pl.1, .all, e⟩ hne]; exact j2, by rw [Env.get_put_other e2 ⟨pl.1, backB pl.2.2, e⟩ hne]; exact j3⟩) i
    simp only [List.map_cons, putAll, putAllB]
    refine ⟨fun hi => ?_, fun hi => ?_⟩
    · simp only [List.mem_cons, not_or] at hi
      obtain ⟨h1, h2⟩ := ih.1 hi.2
      rw [h1, h2, Env.get_put_other e1 ⟨pl.1, .all, e⟩ hi.1, Env.get_put_other e2 ⟨pl.1, backB pl.2.2, e⟩ hi.1]
      exact ⟨rfl, rfl⟩
    · rcases List.mem_cons.1 hi with rfl | hi
      · obtain ⟨h1, h2⟩ := ih.1 hn'.1
        refine ⟨t, m, x, pl.2.2, v, n, k1, k2, ?_, ?_, 0, by simp, by simp [k3]⟩
        · rw [h1, Env.get_putB e1 pl.1 _ _ (by omega), q2, k3]
        · rw [h2, Env.get_putB e2 pl.1 _ _ (by omega), q3, k3]
      · obtain ⟨t, m, x, p, v', n, g1, g2, g3, g4, k, g5, g6⟩ := ih.2 hi
        exact ⟨t, m, x, p, v', n, g1, g2, g3, g4, k + 1, by simpa using g5, by simpa using g6⟩

theorem ds_at : ∀ (as : List (PK × Operand)) (ws vs : List TV) (es : List Entry) (ds : List IOD) (pls : List (Nat × Nat × List Step)), IOall G F env ts w as ws vs es ds → ds.map (·.r) = pls.map (·.1) → ds.map (·.p) = pls.map (·.2.2) →
    ∀ (k : Nat) (q : Nat × List Step) (e : Entry), (pls.map fun pl => (pl.1, pl.2.2))[k]? = some q → es[k]? = some e → ∃ d ∈ ds, d.r = q.1 ∧ d.p = q.2 ∧ ∃ a v v', IOk G F env ts w a v v' e d
  | [], [], [], [], [], _, _, _, _, k, q, e, _, h => by simp at h
  | a :: as, v :: ws, v' :: vs, e0 :: es, d :: ds, [], _, h, _, k, q, e, _, _ => by simp at h
  | a :: as, v :: ws, v' :: vs, e0 :: es, d :: ds, pl :: pls, h, h1, h2, k, q, e, hk, he => by
    simp only [List.map_cons, List.cons.injEq] at h1 h2
    cases k with
    | zero =>
      simp only [List.map_cons, List.getElem?_cons_zero, Option.some.injEq] at hk he
      subst hk he
      exact ⟨d, by simp, h1.1, h2.1, a, v, v', h.1⟩
    | succ k =>
      obtain ⟨d', g1, g2⟩ := ds_at as ws vs es ds pls h.2 h1.2 h2.2 k q e (by simpa using hk) (by simpa using he)
      exact ⟨d', by simp [g1], g2⟩
  | [], _ :: _, _, _, _, _, h, _, _, _, _, _, _, _ | _ :: _, [], _, _, _, _, h, _, _, _, _, _, _, _ => h.elim
  | [], [], _ :: _, _, _, _, h, _, _, _, _, _, _, _ | [], [], [], _ :: _, _, _, h, _, _, _, _, _, _, _ | [], [], [], [], _ :: _, _, h, _, _, _, _, _, _, _ => h.elim
  | _ :: _, _ :: _, [], _, _, _, h, _, _, _, _, _, _, _ | _ :: _, _ :: _, _ :: _, [], _, _, h, _, _, _, _, _, _, _ | _ :: _, _ :: _, _ :: _, _ :: _, [], _, h, _, _, _, _, _, _, _ => h.elim

theorem call_fin {d : Option Nat} {tk : List TV} {rv : List Value} {fr : List Res} {v : Value} {K : Unit → Env → Option ρ} (R : RelX B G F [] env ts w) (hc : Cur env c) (hg : gOf c = true)
    (hl : ∀ dd, d = some dd → ∀ l ∈ B.lents, l.1 ≠ dd) (hv : v = resV rv) (ht : tupRel G w tk rv fr) (nd : ND fr) (ap : ∀ j, Apart fr (F j))
    (ok : ∀ z ∈ fr, ¬ G z.blk ∧ z.blk < w.heap.size ∧ (B.w0.heap.size ≤ z.blk ∨ ∃ q ∈ B.R0, q.blk = z.blk ∧ q.lo ≤ z.lo ∧ z.hi ≤ q.hi))
    (h : (match d, tk with
      | none, [] => (pure () : Rd Unit)
      | some d, [] => Rd.set d .all .undef
      | some d, [v] => Rd.set d .all (.val v.t v.m v.x)
      | some d, vs => Rd.set d .all (.tup vs)
      | _, _ => .fail).run c d env K = some r) :
    ∃ G' F' env', K () env' = some r ∧ RelX B G' F' [] env' (setO ts d v) w ∧ env'.length = env.length := by
  have fin : ∀ dd e, d = some dd → slotRel G w env ts e v fr → (∀ g e', e ≠ .g g e') → (Rd.set dd .all e).run c d env K = some r →
      ∃ G' F' env', K () env' = some r ∧ RelX B G' F' [] env' (setO ts d v) w ∧ env'.length = env.length := by
    rintro dd e rfl h1 h2 h3
    obtain ⟨F9, env9, h4, h5, h6⟩ := set_new R hc hg (hl dd rfl) h1 h2 nd ap ok h3
    exact ⟨_, F9, env9, h4, h5, h6⟩
  have hlr := tupRel_len _ _ _ ht
  cases d with
  | none =>
    cases tk with
    | nil => exact ⟨G, F, env, h, R, rfl⟩
    | cons _ _ => simp at h
  | some dd =>
    match tk, rv, hlr, ht, hv, h with
    | [], [], _, ht, _, h => exact fin dd .undef rfl trivial (fun _ _ => by simp) h
    | [u], [x], _, ht, hv, h =>
      obtain ⟨f1, f2, hv1, hn, he⟩ := ht
      have hn : f2 = [] := hn
      subst hn
      refine fin dd (.val u.t u.m u.x) rfl ?_ (fun _ _ => by simp) h
      rw [hv]
      have he' : fr = f1 := by simpa using he
      rw [he']
      exact hv1
    | u1 :: u2 :: us, x1 :: x2 :: xs, _, ht, hv, h =>
      refine fin dd (.tup (u1 :: u2 :: us)) rfl ⟨(x1 :: x2 :: xs).toArray, hv, by simpa using ht⟩ (fun _ _ => by simp) h

theorem call_with {f : Nat} {te : TE} {os : List Operand} {d : Option Nat} {K : Unit → Env → Option ρ} {args : Array Value} (R : RelX B G F [] env ts w) (hc : Cur env c) (hg : gOf c = true)
    (hl : ∀ dd, d = some dd → ∀ l ∈ B.lents, l.1 ≠ dd)
    (hcall : ∀ (G : Nat → Prop) (as : List TV) (s : te.sig.S) (R : List Res) (q : te.sig.R), decAll (te.sig.ps.map (·.t)) as = some s → as.map (·.m) = te.sig.ps.map (·.m) →
      tupRel G w (argTVs te.sig.ps as) (os.map (evalO ts)) R → ND R → (∀ z ∈ R, ¬ G z.blk ∧ z.blk < w.heap.size) → (∀ b, G b → b < w.heap.size) → te.F s = some q →
      Calls P f args w fun e w' => ∃ v, e = .returned v ∧ RetOk te.sig.rs.length G w R (ioVals te.sig.ps (os.map (evalO ts))) (encAll te.sig.outs q) v w')
    (h : (callWith c te os d).run c d env K = some r) :
    Calls P f args w fun e w' => ∃ v, e = .returned v ∧ ∃ G' F' env', K () env' = some r ∧ RelX B G' F' [] env' (setO ts d v) w' ∧ env'.length = env.length := by
  simp only [callWith, Rd.run_bind'] at h
  obtain ⟨us, G1, F1, env1, h, hG1, R1, hl1, hc1, hm1, hlen⟩ := argsO_run te.sig.ps os R hc hg h
  have hcur1 := hc.moved hc1
  obtain ⟨vs, rts, G3, F3, env3, h, hG3, R3, hl3, hc3, hpl, hvm, hfr1, hfr2⟩ := argsP_run te.sig.ps os R1 hcur1 hg h
  have hcur3 := hcur1.moved hc3
  obtain ⟨ws, pls, h, hpre⟩ := argsIO_run R3 hcur3 hg te.sig.ps os h
  obtain ⟨hgd, h⟩ := Rd.run_guard h
  simp only [Bool.and_eq_true, decide_eq_true_eq, List.all_eq_true, Bool.not_eq_true', List.contains_eq_mem, decide_eq_false_iff_not] at hgd
  obtain ⟨hnd, hlent⟩ := hgd
  simp only [Rd.run, TE.run, hg, cond_true] at h
  split at h
  · cases h
  rename_i s hdec
  obtain ⟨q, hq, h⟩ := Option.bind_eq_some_iff.1 h
  obtain ⟨es, h, hpost, hcp⟩ := backs_run hg pls _ hnd h
  obtain ⟨ds, hds, hdr, hdp⟩ := ioAll R3 _ ws pls _ es hpre hpost
  -- the arguments
  have hdn : (ds.map (·.r)).Nodup := hdr ▸ hnd
  have hIO := hds.mem
  let GL : Nat → Prop := fun b => G3 b ∨ ∃ q ∈ rts, q < env3.length ∧ blks (F3 q) b
  let GA : Nat → Prop := fun b => GL b ∨ ∃ d ∈ ds, blks d.z b
  have hH := held_tup (F := F3) (G := G3) (w := w) ([] ++ us.zip ((selV kO te.sig.ps os).map fun a => evalO ts a.2)) env3.length R3.held
  have hlus : us.length = (selV kO te.sig.ps os).length := by
    have := congrArg List.length hm1
    simpa using this
  simp only [List.nil_append] at hH
  rw [List.map_fst_zip (by simp [hlus]), List.map_snd_zip (by simp [hlus])] at hH
  have hio := io_tup (G := G3) (F := F3) (env := env3) (ts := ts) (w := w) _ ws _ es ds GA (fun b hb => .inl (.inl hb)) (fun d hd b hb => .inr ⟨d, hd, hb⟩) hds
  obtain ⟨RR, hargs, hperm, hmarks, hiov⟩ := merge_rel (GA := GA) te.sig.ps os us vs ws _ _ (tupRel_G (fun b hb => .inl (.inl hb)) hH) (tupRel_G (fun b hb => .inl hb) hpl) hio hm1 hvm (io_marks _ _ _ _ _ hds) hlen
  -- what the call is given lies in slots that are out of use
  have hRmem : ∀ z ∈ RR, (∃ k, env3.length ≤ k ∧ z ∈ F3 k) ∨ ∃ d ∈ ds, z ∈ ioFp d := fun z hz => by
    rcases List.mem_append.1 (hperm.mem_iff.1 hz) with h | h
    · obtain ⟨k, h1, h2⟩ := mem_flatF _ _ h
      exact .inl ⟨k, h1, h2⟩
    · obtain ⟨d, h1, h2⟩ := List.mem_flatMap.1 h
      exact .inr ⟨d, h1, h2⟩
  have hR : ∀ z ∈ RR, ∃ k, (env3.length ≤ k ∨ k ∈ ds.map (·.r)) ∧ ∃ y ∈ F3 k, y.blk = z.blk ∧ y.lo ≤ z.lo ∧ z.hi ≤ y.hi := fun z hz => by
    rcases hRmem z hz with ⟨k, h1, h2⟩ | ⟨d, h1, h2⟩
    · exact ⟨k, .inl h1, z, h2, rfl, Nat.le_refl _, Nat.le_refl _⟩
    · obtain ⟨a, v, v', e, hk⟩ := hIO d h1
      exact ⟨d.r, .inr (List.mem_map.2 ⟨d, h1, rfl⟩), hk.mem h2⟩
  have hdlt : ∀ k ∈ ds.map (·.r), k < env3.length := fun k hk => by
    obtain ⟨d, hd, rfl⟩ := List.mem_map.1 hk
    obtain ⟨_, _, _, _, hk⟩ := hIO d hd
    exact hk.lt
  have hRnd : ND RR := by
    rw [ND.perm hperm]
    refine ND.append.2 ⟨flatF_nd R3.nd R3.ap _ _, io_nd R3 ds hIO hdn, fun x hx y hy => ?_⟩
    obtain ⟨k, h1, h2⟩ := mem_flatF _ _ hx
    obtain ⟨d, hd, hy⟩ := List.mem_flatMap.1 hy
    obtain ⟨_, _, _, _, hk⟩ := hIO d hd
    obtain ⟨y', hy', e, _⟩ := hk.mem hy
    rw [← e]
    have := hk.lt
    exact R3.ap k d.r (by omega) x h2 y' hy'
  have hz : ∀ d ∈ ds, ∀ y ∈ d.z, y ∈ F3 d.r := fun d hd y hy => by
    obtain ⟨_, _, _, _, hk⟩ := hIO d hd
    rw [hk.fp]
    simp [hk.subz.subset hy]
  have hRok : ∀ z ∈ RR, ¬ GA z.blk ∧ z.blk < w.heap.size := fun z hz' => by
    obtain ⟨k, hk, y, hy, e, _⟩ := hR z hz'
    refine ⟨?_, e ▸ (R3.ok k y hy).2.1⟩
    rintro ((h | ⟨q, hq1, hq2, x, hx, e'⟩) | ⟨d, hd, x, hx, e'⟩)
    · exact (R3.ok k y hy).1 (e ▸ h)
    · refine R3.ap q k ?_ x hx y hy (e'.trans e.symm)
      rcases hk with hk | hk
      · omega
      · intro he
        exact hlent k (hdr ▸ hk) (he ▸ hq1)
    · rcases hRmem z hz' with ⟨k, h1, h2⟩ | ⟨d', h1, h2⟩
      · have := hdlt d.r (List.mem_map.2 ⟨d, hd, rfl⟩)
        exact R3.ap d.r k (by omega) x (hz d hd x hx) z h2 e'
      · by_cases hdd : d.r = d'.r
        · have := ds_inj ds hdn d hd d' h1 hdd
          subst this
          obtain ⟨_, _, _, _, hk⟩ := hIO d hd
          rcases List.mem_cons.1 h2 with rfl | h2
          · exact (hk.nd R3).2 x (hk.subz.subset hx) e'
          · exact hk.apz z h2 x hx e'.symm
        · obtain ⟨_, _, _, _, hk⟩ := hIO d' h1
          obtain ⟨y', hy', e2, _⟩ := hk.mem h2
          exact R3.ap d.r d'.r hdd x (hz d hd x hx) y' hy' (e'.trans e2.symm)
  have hGAlt : ∀ b, GA b → b < w.heap.size := by
    rintro b ((h | ⟨q, _, _, x, hx, rfl⟩) | ⟨d, hd, x, hx, rfl⟩)
    · exact (R3.gl b h).1
    · exact (R3.ok q x hx).2.1
    · exact (R3.ok d.r x (hz d hd x hx)).2.1
  refine Calls.mono (hcall GA _ s RR q hdec hmarks hargs hRnd hRok hGAlt hq) ?_
  rintro e w' ⟨v, rfl, G', rv, fr, fi, g1, g2, g3, g4, g5, g6, g7, g8⟩
  refine ⟨v, rfl, ?_⟩
  rw [hiov] at g6
  have hown := io_own _ _ _ _ _ fi hds g6
  -- what is shared behind the call
  obtain ⟨Gf, k1, k2, k3, k4, k5⟩ : ∃ Gf : Nat → Prop, (∀ b, zG G3 ds b → Gf b) ∧ (∀ b, Gf b → G' b) ∧ (∀ b, Gf b → zG G3 ds b ∨ w.heap.size ≤ b ∨ blks RR b) ∧
      tupRel Gf w' ((encAll te.sig.outs q).take te.sig.rs.length) rv fr ∧ tupRel Gf w' (((encAll te.sig.outs q).drop te.sig.rs.length).map ptrTV) ((selV (·.io) te.sig.ps os).map fun a => evalO ts a.2) fi := by
    have hzg : ∀ b, zG G3 ds b → GA b := fun b hb => hb.imp (fun h => .inl h) id
    cases hall : te.sig.outs.all fun o => noS o.1 o.2 with
    | true =>
      rw [List.all_eq_true] at hall
      have hno : ∀ v ∈ encAll te.sig.outs q, noS v.t v.m = true := fun v hv => by
        obtain ⟨o, ho, e1, e2⟩ := encAll_md _ _ v hv
        rw [e1, e2]
        exact hall o ho
      refine ⟨zG G3 ds, fun _ h => h, fun b h => g1 b (hzg b h), fun _ h => .inl h, tupRel_noS _ _ _ (fun v hv => hno v (List.mem_of_mem_take hv)) g5, tupRel_noS _ _ _ (fun v hv => ?_) g6⟩
      obtain ⟨u, hu, rfl⟩ := List.mem_map.1 hv
      exact hno u (List.mem_of_mem_drop hu)
    | false =>
      refine ⟨G', fun b h => g1 b (hzg b h), fun _ h => h, fun b h => ?_, g5, g6⟩
      rcases (g2 b h).2 with ((h | ⟨q, hq, _⟩) | h) | h | h
      · exact .inl (.inl h)
      · rw [hfr1 (by rw [hall]; rfl)] at hq; simp at hq
      · exact .inl (.inr h)
      · exact .inr (.inl h)
      · exact .inr (.inr h)
  let F' : Nat → List Res := fun i => if i < env3.length then (match ds.find? (fun d => d.r == i) with | some d => d.pre ++ d.post | none => F3 i) else []
  have hF'd : ∀ d ∈ ds, F' d.r = d.pre ++ d.post := fun d hd => by
    have hlt := hdlt d.r (List.mem_map.2 ⟨d, hd, rfl⟩)
    simp only [F', hlt, if_true]
    cases hfd : ds.find? (fun d' => d'.r == d.r) with
    | none => exact absurd (List.find?_eq_none.1 hfd d hd) (by simp)
    | some d' =>
      have h1 := List.find?_some hfd
      have h2 := List.mem_of_find?_eq_some hfd
      have : d' = d := ds_inj ds hdn d' h2 d hd (by simpa using h1)
      rw [this]
  have hF'o : ∀ i, i < env3.length → i ∉ ds.map (·.r) → F' i = F3 i := fun i hi hn => by
    simp only [F', hi, if_true]
    cases hfd : ds.find? (fun d' => d'.r == i) with
    | none => rfl
    | some d' =>
      have h1 := List.find?_some hfd
      have h2 := List.mem_of_find?_eq_some hfd
      exact absurd (List.mem_map.2 ⟨d', h2, by simpa using h1⟩) hn
  have hF'n : ∀ i, env3.length ≤ i → F' i = [] := fun i hi => by simp [F', Nat.not_lt.2 hi]
  have hF'sub : ∀ i, (F' i).Sublist (F3 i) := fun i => by
    by_cases hi : i < env3.length
    · by_cases hm : i ∈ ds.map (·.r)
      · obtain ⟨d, hd, rfl⟩ := List.mem_map.1 hm
        obtain ⟨_, _, _, _, hk⟩ := hIO d hd
        rw [hF'd d hd, hk.fp]
        exact List.Sublist.append (List.Sublist.refl _) (List.sublist_append_right _ _)
      · rw [hF'o i hi hm]; exact List.Sublist.refl _
    · rw [hF'n i (by omega)]; exact List.nil_sublist _
  -- a root's rest is apart from what was handed on
  have hrest : ∀ d ∈ ds, ∀ x ∈ d.f, ∀ j, ∀ y ∈ F' j, y.blk ≠ x.blk := fun d hd x hx j y hy => by
    obtain ⟨_, _, _, _, hk⟩ := hIO d hd
    by_cases hj : j = d.r
    · subst hj
      rw [hF'd d hd] at hy
      have nd := R3.nd d.r
      rw [hk.fp] at nd
      obtain ⟨n1, n2, n3⟩ := ND.append.1 nd
      obtain ⟨n4, n5, n6⟩ := ND.append.1 n2
      rcases List.mem_append.1 hy with hy | hy
      · exact n3 y hy x (by simp [hx])
      · exact (n6 x hx y hy).symm
    · exact R3.ap j d.r hj y ((hF'sub j).subset hy) x (by rw [hk.fp]; simp [hx])
  have hjlt : ∀ j, ∀ y ∈ F' j, j < env3.length := fun j y hy => by
    rcases Nat.lt_or_ge j env3.length with h | h
    · exact h
    · rw [hF'n j h] at hy; simp at hy
  have hAp : ∀ z ∈ RR, ∀ j, ∀ y ∈ F' j, y.blk = z.blk → ∃ d ∈ ds, z.blk = d.b := fun z hz' j y hy he => by
    rcases hRmem z hz' with ⟨k, h1, h2⟩ | ⟨d, h1, h2⟩
    · have := hjlt j y hy
      exact absurd he (R3.ap j k (by omega) y ((hF'sub j).subset hy) z h2)
    · obtain ⟨_, _, _, _, hk⟩ := hIO d h1
      rcases List.mem_cons.1 h2 with rfl | h2
      · exact ⟨d, h1, rfl⟩
      · exact absurd he (hrest d h1 z (hk.sub2.subset h2) j y hy)
  have hAp' : ∀ z ∈ fr ++ fi, ∀ j, ∀ y ∈ F' j, y.blk = z.blk → ∃ d ∈ ds, z.blk = d.b := fun z hz' j y hy he => by
    rcases (g8 z hz').2.2 with h | ⟨q, hq, e, _⟩
    · have := (R3.ok j y ((hF'sub j).subset hy)).2.1
      omega
    · obtain ⟨d, hd, e'⟩ := hAp q hq j y hy (he.trans e.symm)
      exact ⟨d, hd, e ▸ e'⟩
  have hres : ∀ z ∈ fr ++ fi, ¬ Gf z.blk ∧ z.blk < w'.heap.size ∧ (B.w0.heap.size ≤ z.blk ∨ ∃ q ∈ B.R0, q.blk = z.blk ∧ q.lo ≤ z.lo ∧ z.hi ≤ q.hi) := fun z hz' => by
    obtain ⟨h1, h2, h3⟩ := g8 z hz'
    refine ⟨fun h => h1 (k2 _ h), h2, ?_⟩
    rcases h3 with h3 | ⟨q, hq, e1, e2, e3⟩
    · exact .inl (Nat.le_trans R3.turn.size h3)
    · obtain ⟨k, _, y, hy, e4, e5, e6⟩ := hR q hq
      rcases (R3.ok k y hy).2.2 with h | ⟨x, hx, e7, e8, e9⟩
      · exact .inl (by omega)
      · exact .inr ⟨x, hx, by omega, by omega, by omega⟩
  have R4 := R3.out_of_use (ds.map (·.r)) hdlt
  have hRG : ∀ b i, cellsOf RR b i → ¬ G3 b := by
    rintro b i ⟨z, hz', rfl, _⟩ h
    exact (hRok z hz').1 (.inl (.inl h))
  have R5 := R4.callWorld (G' := Gf) (F' := F') (X := cellsOf RR) (w' := w') hF'sub
    (fun i hi hu => by
      rw [putU_len] at hi
      exact hF'o i hi (fun hm => hu (putU_undef _ _ _ hm hi)))
    (fun i hi => hF'n i (by rwa [putU_len] at hi)) (fun b hb => k1 b (.inl hb))
    (fun b hb j => by
      rintro ⟨y, hy, rfl⟩
      rcases k3 _ hb with (h | ⟨d, hd, x, hx, e⟩) | h | ⟨z, hz', e⟩
      · exact (R3.ok j y ((hF'sub j).subset hy)).1 h
      · obtain ⟨_, _, _, _, hk⟩ := hIO d hd
        exact hrest d hd x (hk.subz.subset hx) j y hy e.symm
      · have := (R3.ok j y ((hF'sub j).subset hy)).2.1
        omega
      · obtain ⟨d, hd, e'⟩ := hAp z hz' j y hy e.symm
        obtain ⟨y', hy', e2⟩ := hown d hd
        exact (g8 y' (by simp [hy'])).1 (by rw [e2, ← e', e]; exact k2 _ hb))
    (fun b hb => by
      refine ⟨(g2 b (k2 b hb)).1, ?_⟩
      rcases k3 _ hb with (h | ⟨d, hd, x, hx, rfl⟩) | h | ⟨z, hz', rfl⟩
      · exact (R3.gl b h).2
      · exact .inr ((R3.ok d.r x (hz d hd x hx)).2.2.imp id fun ⟨q, hq, e, _⟩ => ⟨q, hq, e⟩)
      · exact .inr (.inl (Nat.le_trans R3.turn.size h))
      · obtain ⟨k, _, y, hy, e4, _⟩ := hR z hz'
        rw [← e4]
        exact .inr ((R3.ok k y hy).2.2.imp id fun ⟨q, hq, e, _⟩ => ⟨q, hq, e⟩))
    g3 hRG
    (fun b i hx j hj hu => by
      rw [putU_len] at hj
      have hjn : j ∉ ds.map (·.r) := fun hm => hu (putU_undef _ _ _ hm hj)
      obtain ⟨z, hz', rfl, _⟩ := hx
      obtain ⟨k, hk, y, hy, e, _⟩ := hR z hz'
      rintro ⟨x, hx, e'⟩
      refine R3.ap j k ?_ x hx y hy (e'.trans e.symm)
      rcases hk with hk | hk
      · omega
      · exact fun he => hjn (he ▸ hk))
    (fun b i hb hx => by
      obtain ⟨z, hz', rfl, h1, h2⟩ := hx
      obtain ⟨k, hk, y, hy, e, e2, e3⟩ := hR z hz'
      rcases (R3.ok k y hy).2.2 with h | ⟨x, hx, e7, e8, e9⟩
      · omega
      · exact ⟨x, hx, by omega, by omega, by omega⟩)
  obtain ⟨g7a, g7b, g7c⟩ := ND.append.1 g7
  have hcut : ∀ d ∈ ds, ∀ b' i, cellsOf RR b' i → cut d.b d.o d.u.t.sz d.f b' i ∨ ¬ blks (F3 d.r) b' := fun d hd b' i hx => by
      obtain ⟨z, hz', rfl, h1, h2⟩ := hx
      rcases hRmem z hz' with ⟨k, h3, h4⟩ | ⟨d', h3, h4⟩
      · refine .inr ?_
        rintro ⟨x, hx, e⟩
        have := hdlt d.r (List.mem_map.2 ⟨d, hd, rfl⟩)
        exact R3.ap d.r k (by omega) x hx z h4 e
      · by_cases hdd : d.r = d'.r
        · have := ds_inj ds hdn d hd d' h3 hdd
          subst this
          obtain ⟨_, _, _, _, hk⟩ := hIO d hd
          rcases List.mem_cons.1 h4 with rfl | h4
          · exact .inl (.inl ⟨rfl, h1, h2⟩)
          · exact .inl (.inr ⟨z, hk.sub2.subset h4, rfl⟩)
        · refine .inr ?_
          rintro ⟨x, hx, e⟩
          obtain ⟨_, _, _, _, hk⟩ := hIO d' h3
          obtain ⟨y', hy', e2, _⟩ := hk.mem h4
          exact R3.ap d.r d'.r hdd x hx y' hy' (e.trans e2.symm)
  obtain ⟨F'', R6, hF''⟩ := refill (G := G3) (F := F3) (env := env3) (fun b hb => k1 b (.inl hb)) g3.toSame hRG R3.lent _ ws _ es ds (F' := F') (E := env3) fi hds hdn rfl
    hcut
    R5 hF'd k5 g7b (fun z hz' => hAp' z (by simp [hz'])) (fun z hz' => hres z (by simp [hz']))
  rw [hdr] at R6
  have hspec := putAllB_spec (env := env3) pls _ es env3 env3 rfl rfl hnd hpost (fun i hi => ⟨hdlt i (hdr ▸ hi), rfl, rfl⟩)
  have R7 : RelX B Gf F'' [] (putAllB env3 pls es) ts w' := by
    refine R3.behind (X := cellsOf RR) R6 (putAll_len _ _ _) ((putAllB_len _ _ _).trans (putAll_len _ _ _).symm) (fun i => ?_) (fun i => ?_) g3.toSame (fun b hb => k1 b (.inl hb)) hRG (fun i => ?_)
    · by_cases hi : i ∈ pls.map (·.1)
      · obtain ⟨t, m, x, p, v', n, _, _, h3, h4, _⟩ := (hspec i).2 hi
        rw [h3, h4]
        exact ⟨rfl, rfl⟩
      · obtain ⟨h1, h2⟩ := (hspec i).1 hi
        rw [h1, h2]; exact ⟨rfl, rfl⟩
    · by_cases hi : i ∈ pls.map (·.1)
      · obtain ⟨t, m, x, p, v', n, h1, h2, h3, h4, _⟩ := (hspec i).2 hi
        rw [h3]; exact .inr ⟨_, _, _, rfl⟩
      · obtain ⟨h1, h2⟩ := (hspec i).1 hi
        rw [h1]; exact .inl rfl
    · by_cases hi : i ∈ pls.map (·.1)
      · obtain ⟨t, m, x, p, v', n, h1, h2, h3, h4, k, hk1, hk2⟩ := (hspec i).2 hi
        obtain ⟨d, hdk, hdr', hdp', hde⟩ := ds_at (G := G3) (F := F3) (env := env3) (ts := ts) (w := w) _ ws _ es ds pls hds hdr hdp k (i, p) (.val t n.1 n.2) hk1 hk2
        obtain ⟨a, v0, v1, hke⟩ := hde
        obtain ⟨t1, m1, x1, m2, x2, q1, q2, q3⟩ := hke.keep
        simp only at hdr' hdp'
        rw [hdr', h1] at q1
        cases q1
        simp only [Entry.val.injEq] at q2
        obtain ⟨_, q4, q5⟩ := q2
        subst q4
        have q5 := eq_of_heq q5
        subst q5
        refine .inr ⟨t, m, x, n.1, n.2, pat p, h1, ⟨i, h4⟩, ?_⟩
        have := q3 (cellsOf RR) w' g3.toSame hRG (hcut d hdk)
        rw [hdr', hdp'] at this
        exact this
      · obtain ⟨h1, h2⟩ := (hspec i).1 hi
        refine .inl ⟨h2, fun t m x he b j hx => ?_⟩
        have hil := (R3.rootVal he).1
        obtain ⟨z, hz', rfl, _⟩ := hx
        obtain ⟨k, hk, y, hy, e, _⟩ := hR z hz'
        rintro ⟨x', hx', e'⟩
        refine R3.ap i k ?_ x' hx' y hy (e'.trans e.symm)
        rcases hk with hk | hk
        · omega
        · exact fun hik => hi (hdr ▸ hik ▸ hk)
  have hlenp : (putAllB env3 pls es).length = env.length := by rw [putAllB_len, hl3, hl1]
  have hcurp : Cur (putAllB env3 pls es) c := hcur3.moved hcp
  have hfrap : ∀ j, Apart fr (F'' j) := fun j z hz' y hy he => by
    rcases hF'' j y hy with h | h
    · obtain ⟨d, hd, e⟩ := hAp' z (by simp [hz']) j y h he.symm
      obtain ⟨y', hy', e2⟩ := hown d hd
      exact g7c z hz' y' hy' (e.trans e2.symm)
    · exact g7c z hz' y h he
  have hfrok := fun z (hz' : z ∈ fr) => hres z (List.mem_append_left _ hz')
  obtain ⟨G9, F9, env9, h4, h5, h6⟩ := call_fin R7 hcurp hg hl g4 k4 g7a hfrap hfrok h
  exact ⟨G9, F9, env9, h4, h5, h6.trans hlenp⟩

end
end Go.VL

namespace Go.VL

theorem pathOf_pat : ∀ (q : List Step), pathOf (pat q) (idxOf q) = some q
  | [] => rfl
  | .idx i :: q => by simp [pat, idxOf, pathOf, pathOf_pat q]
  | .fst :: q => by simp [pat, idxOf, pathOf, pathOf_pat q]
  | .snd :: q => by simp [pat, idxOf, pathOf, pathOf_pat q]
  | .der :: q => by simp [pat, idxOf, pathOf, pathOf_pat q]

theorem optAll_get {α β : Type} {f : α → Option β} : ∀ {l : List α} {r : List β}, optAll f l = some r → r.length = l.length ∧ ∀ (i : Nat) a, l[i]? = some a → ∃ b, r[i]? = some b ∧ f a = some b
  | [], r, h => by simp only [optAll, Option.some.injEq] at h; subst h; exact ⟨rfl, fun i a h => by simp at h⟩
  | a :: l, r, h => by
    simp only [optAll] at h
    split at h
    · rename_i b hb
      obtain ⟨r', hr, rfl⟩ := Option.map_eq_some_iff.1 h
      obtain ⟨h1, h2⟩ := optAll_get hr
      refine ⟨by simp [h1], fun i a' ha => ?_⟩
      cases i with
      | zero => simp at ha; subst ha; exact ⟨b, rfl, hb⟩
      | succ i => simpa using h2 i a' (by simpa using ha)
    · cases h

theorem optAll_of {α β : Type} {f : α → Option β} : ∀ {l : List α} {r : List β}, r.length = l.length → (∀ (i : Nat) a, l[i]? = some a → f a = r[i]?) → optAll f l = some r
  | [], r, h, _ => by cases r with | nil => rfl | cons _ _ => simp at h
  | a :: l, r, h, hf => by
    cases r with
    | nil => simp at h
    | cons b r =>
      have h0 : f a = some b := by simpa using hf 0 a rfl
      have := optAll_of (f := f) (l := l) (r := r) (by simpa using h) (fun i a' ha => by simpa using hf (i + 1) a' (by simpa using ha))
      simp [optAll, h0, this]

section
variable {P : Program} {C : Ctx} {B : Base} {G : Nat → Prop} {F : Nat → List Res} {H : List (TV × Value)} {env : Env} {ts : List Value} {w : World}
variable {ρ : Type} {c : List GI} {r : ρ}

theorem entO_run {o : Operand} {d : Option Nat} {K : Sl → Env → Option ρ} (R : RelX B G F H env ts w) (hc : Cur env c) (hg : gOf c = true) (h : (entO c o).run c d env K = some r) :
    ∃ sl, K sl env = some r ∧ OpRel G F env ts w o sl (evalO ts o) := by
  cases o with
  | tmp s => exact opnd_run (ty := none) (o := .tmp s) R hc hg h
  | const v => simp only [entO, Rd.run_ret] at h; exact ⟨⟨0, 0, [], .undef⟩, h, rfl, .inl rfl⟩
  | func f => simp only [entO, Rd.run_ret] at h; exact ⟨⟨0, 0, [], .undef⟩, h, rfl, .inl rfl⟩
  | global g => simp only [entO, Rd.run_ret] at h; exact ⟨⟨0, 0, [], .undef⟩, h, rfl, .inl rfl⟩

theorem entsO_run {d : Option Nat} (R : RelX B G F H env ts w) (hc : Cur env c) (hg : gOf c = true) : ∀ (os : List Operand) {K : List Sl → Env → Option ρ}, (entsO c os).run c d env K = some r →
    ∃ es, K es env = some r ∧ es.length = os.length ∧ ∀ (i : Nat) o sl, os[i]? = some o → es[i]? = some sl → OpRel G F env ts w o sl (evalO ts o)
  | [], K, h => by simp only [entsO, Rd.run_pure] at h; exact ⟨[], h, rfl, fun i o e h => by simp at h⟩
  | o :: os, K, h => by
    simp only [entsO, Rd.run_bind'] at h
    obtain ⟨sl, h, ho⟩ := entO_run R hc hg h
    obtain ⟨es, h, h1, h2⟩ := entsO_run R hc hg os h
    simp only [Rd.run_pure] at h
    refine ⟨_, h, by simp [h1], fun i o' e he he' => ?_⟩
    cases i with
    | zero => simp at he he'; subst he he'; exact ho
    | succ i => exact h2 i o' e (by simpa using he) (by simpa using he')

theorem capRoots_run {d : Option Nat} : ∀ (l : List (Nat × Nat)) {K : Unit → Env → Option ρ}, (capRoots l).run c d env K = some r → K () env = some r ∧ ∀ x ∈ l, fresh (env.get x.1) x.2 [] = true
  | [], K, h => ⟨h, fun x hx => by simp at hx⟩
  | x :: l, K, h => by
    simp only [capRoots, Rd.run_bind'] at h
    obtain ⟨t, m, y, h1, h2, h⟩ := root_run h
    obtain ⟨h3, h4⟩ := capRoots_run l h
    refine ⟨h3, fun z hz => ?_⟩
    rcases List.mem_cons.1 hz with rfl | hz
    · exact h2
    · exact h4 z hz

theorem unpack_ptr {t : Ty} (h : t.agg = false) (v : Value) : unpack t v = [v] := by simp [unpack, h]

/-- the pointer to a box's content is the box's own -/
theorem aRel_box {q ep : Nat} {v : Value} {f : List Res} (h : aRel w env ts q ep [.der] v f) (hf : fresh (env.get q) ep [] = true) : v = ts.getD q undef := by
  obtain ⟨_, _, h⟩ := h
  obtain ⟨t, m, x, u, ad, h1, h2, h3, h4⟩ := h hf
  cases t <;> try (simp [getP] at h2; done)
  simp only [unpack, Ty.agg, if_false, Bool.false_eq_true] at h3
  generalize hv : ts.getD q undef = tv at h3
  cases tv with
  | pointer p =>
    cases p with
    | none => simp [walkV] at h3
    | some a => simp only [walkV, walkA, Option.some.injEq] at h3; rw [h4, h3]
  | _ => simp [walkV] at h3

/-- what a closure's entry says of it -/
theorem clo_val : ∀ (e : Entry) (v : Value) (f : List Res) (n : Nat), slotRel G w env ts e v f → cloF e = some n → (∀ x ∈ caps e, fresh (env.get x.1) x.2 [] = true) →
    v = .func (.func n) #[] ((caps e).map fun x => ts.getD x.1 undef).toArray
  | .val .fn m (some g), v, f, n, h, hn, _ => by
    simp only [cloF, Option.some.injEq] at hn
    subst hn
    have h1 := h.1
    simp only [unpack, Ty.agg, if_false, Bool.false_eq_true, rep, List.cons.injEq, and_true] at h1
    rw [h1.1]
    rfl
  | .cap e q ep, v, f, n, h, hn, hf => by
    obtain ⟨_, g, b, vs, p, h2, h3, rfl⟩ := h
    simp only [cloF] at hn
    have hv := clo_val e _ _ n h2 hn (fun x hx => hf x (by simp [caps, hx]))
    simp only [Value.func.injEq] at hv
    obtain ⟨rfl, rfl, rfl⟩ := hv
    have hp := aRel_box h3 (hf (q, ep) (by simp [caps]))
    subst hp
    simp [caps]
  | .undef, _, _, _, _, hn, _ => by simp [cloF] at hn
  | .val (.int _) _ _, _, _, _, _, hn, _ => by simp [cloF] at hn
  | .val .bool _ _, _, _, _, _, hn, _ => by simp [cloF] at hn
  | .val .str _ _, _, _, _, _, hn, _ => by simp [cloF] at hn
  | .val .unit _ _, _, _, _, _, hn, _ => by simp [cloF] at hn
  | .val (.pair _ _) _ _, _, _, _, _, hn, _ => by simp [cloF] at hn
  | .val (.list _) _ _, _, _, _, _, hn, _ => by simp [cloF] at hn
  | .val (.arr _ _) _ _, _, _, _, _, hn, _ => by simp [cloF] at hn
  | .val (.ptr _) _ _, _, _, _, _, hn, _ => by simp [cloF] at hn
  | .val .fn _ none, _, _, _, _, hn, _ => by simp [cloF] at hn
  | .addr _ _ _, _, _, _, _, hn, _ => by simp [cloF] at hn
  | .pref _ _ _ _, _, _, _, _, hn, _ => by simp [cloF] at hn
  | .ref _ _, _, _, _, _, hn, _ => by simp [cloF] at hn
  | .nq _ _, _, _, _, _, hn, _ => by simp [cloF] at hn
  | .tup _, _, _, _, _, hn, _ => by simp [cloF] at hn
  | .win _ _ _ _, _, _, _, _, hn, _ => by simp [cloF] at hn
  | .g _ _, _, _, _, _, hn, _ => by simp [cloF] at hn

theorem srcs_get {os : List Operand} {es : List Entry} {src : List Src} {so : List Operand} (h : optAll (srcOp os es) src = some so) {j : Nat} {x : Src} (hj : src[j]? = some x) : ∃ o, so[j]? = some o ∧ srcOp os es x = some o := by
  obtain ⟨_, h2⟩ := optAll_get h
  exact h2 j x hj

theorem isTmp_eq {o : Option Operand} {q : Nat} (h : isTmp o q = true) : o = some (.tmp q) := by
  unfold isTmp at h
  split at h
  · rw [Nat.eq_of_beq_eq_true h]
  · cases h

theorem lay_run {d : Option Nat} (R : RelX B G F [] env ts w) (_hc : Cur env c) (hg : gOf c = true) {src : List Src} {ps : List PK} {os so : List Operand} {es : List Sl} (hso : optAll (srcOp os (es.map (·.e))) src = some so) {k : Nat} {o : Operand} {sl : Sl} {l : Lay}
    (ho : os[k]? = some o) (hek : es[k]? = some sl) (hrel : OpRel G F env ts w o sl (evalO ts o)) (hfit : layFits l o sl.e = true) {K : Unit → Env → Option ρ} (h : (layChk c src ps so k o l sl).run c d env K = some r) :
    K () env = some r ∧ actV w ps (so.map (evalO ts)) l (evalO ts o) := by
  have hek : (es.map (·.e))[k]? = some sl.e := by simp [hek]
  cases l with
  | src j =>
    simp only [layChk] at h
    obtain ⟨hgd, h⟩ := Rd.run_guard h
    refine ⟨h, ?_⟩
    split at hgd
    case h_2 => cases hgd
    rename_i k' hj
    have hk := Nat.eq_of_beq_eq_true hgd
    subst hk
    obtain ⟨o', h1, h2⟩ := srcs_get hso hj
    simp only [srcOp, ho, Option.some.injEq] at h2
    subst h2
    simp [actV, h1]
  | pt j p is =>
    simp only [layChk] at h
    split at h
    case h_2 => simp at h
    rename_i q st hbox
    rw [Rd.run_bind'] at h
    have hg1 := Rd.run_guard h
    clear h
    obtain ⟨hgd, h⟩ := hg1
    simp only [Bool.and_eq_true, decide_eq_true_eq] at hgd
    obtain ⟨⟨g1, g2⟩, g3⟩ := hgd
    have g1 := isTmp_eq g1
    have hpat : pat st = p := by
      simp only [layFits, hbox, isPat, decide_eq_true_eq] at hfit
      exact hfit
    -- the indices
    have hidx : optAll (intV (so.map (evalO ts))) is = some (idxOf st) := by
      have hlen : is.length = (idxOf st).length := by
        have := congrArg List.length g2
        simpa using this
      refine optAll_of hlen.symm (fun n i hi => ?_)
      have hn : n < is.length := (List.getElem?_eq_some_iff.1 hi).1
      have h1 := congrArg (·[n]?) g2
      simp only [List.getElem?_map, hi, Option.map_some, List.getElem?_range (by omega : n < (idxOf st).length), Option.some.injEq] at h1
      obtain ⟨o', k1, k2⟩ := srcs_get hso h1
      simp only [srcOp, ho, hek, hbox, Option.bind_some] at k2
      obtain ⟨x, hx, rfl⟩ := Option.map_eq_some_iff.1 k2
      simp [intV, k1, evalO, hx]
    rw [Rd.run_bind'] at h
    obtain ⟨q', ep, p0, h, ha, hbp⟩ := asPlace_run2 hg R hrel h
    have hp0 : p0 = .der :: st ∧ q' = q := by
      unfold boxAt at hbox
      rw [hbp] at hbox
      simp only [Option.bind_some, Option.map_eq_some_iff, Prod.mk.injEq] at hbox
      obtain ⟨q1, k1, k2, k3⟩ := hbox
      cases p0 with
      | nil => simp [derTail] at k1
      | cons a p0 => cases a <;> simp [derTail] at k1; exact ⟨by rw [k1, k3], k2⟩
    obtain ⟨rfl, rfl⟩ := hp0
    rw [Rd.run_bind'] at h
    obtain ⟨t, m, x, h1, h2, h⟩ := root_run h
    split at h
    case h_2 => simp at h
    rename_i pk hpk
    have h1g := Rd.run_guard h
    clear h
    obtain ⟨hty, h⟩ := h1g
    simp only [decide_eq_true_eq] at hty
    subst hty
    obtain ⟨_, _, hr⟩ := ha
    obtain ⟨t', m', x', u, ad, k1, k2, k3, k4⟩ := hr h2
    rw [h1] at k1
    cases k1
    rw [hpk] at g3
    exact ⟨h, pk, ts.getD q' undef, idxOf st, st, ad, hpk, g3, by simp [g1, evalO], hidx, hpat ▸ pathOf_pat st, k3, k4⟩
  | clo f js =>
    simp only [layChk, Rd.run_bind'] at h
    obtain ⟨hgd, h⟩ := Rd.run_guard h
    simp only [decide_eq_true_eq] at hgd
    obtain ⟨h, hfr⟩ := capRoots_run _ h
    refine ⟨h, ?_⟩
    have hcl : cloF sl.e = some f := by
      simp only [layFits] at hfit
      split at hfit
      · rename_i g hg
        simp only [Bool.and_eq_true] at hfit
        rw [hg, Nat.eq_of_beq_eq_true hfit.1]
      · cases hfit
    have hval : ∃ f0, slotRel G w env ts sl.e (evalO ts o) f0 := by
      rcases hrel.2 with hu | hr
      · rw [hu] at hcl; simp [cloF] at hcl
      · cases hs : slotOf o with
        | some s => rw [hs] at hr; exact ⟨_, hr.2.2.2.2⟩
        | none =>
          rw [hs] at hr
          obtain ⟨t, m, x, k1, k2⟩ := hr
          rw [k1]
          exact ⟨_, k2⟩
    obtain ⟨f0, hval⟩ := hval
    refine ⟨(caps sl.e).map fun x => ts.getD x.1 undef, optAll_of ?_ (fun i j hj => ?_), clo_val sl.e _ f0 f hval hcl hfr⟩
    · have := congrArg List.length hgd
      simpa using this.symm
    · have h1 := congrArg (·[i]?) hgd
      simp only [List.getElem?_map, hj, Option.map_some] at h1
      cases hc : (caps sl.e)[i]? with
      | none => rw [hc] at h1; cases h1
      | some x =>
        rw [hc] at h1
        simp only [Option.map_some, Option.some.injEq] at h1
        obtain ⟨o', k1, k2⟩ := Option.bind_eq_some_iff.1 h1
        have : o' = .tmp x.1 := by cases o' <;> simp only [slotOf] at k2 <;> cases k2; rfl
        subst this
        simp [k1, evalO, hc]

theorem lays_run {d : Option Nat} (R : RelX B G F [] env ts w) (hc : Cur env c) (hg : gOf c = true) {src : List Src} {ps : List PK} {os so : List Operand} {es : List Sl} (hso : optAll (srcOp os (es.map (·.e))) src = some so)
    (hes : ∀ (i : Nat) o sl, os[i]? = some o → es[i]? = some sl → OpRel G F env ts w o sl (evalO ts o)) : ∀ (k : Nat) (os' : List Operand) (ls : List Lay) (es' : List Sl) {K : Unit → Env → Option ρ},
    os' = os.drop k → es' = es.drop k → laysFit ls os' (es'.map (·.e)) = true → (laysChk c src ps so k os' ls es').run c d env K = some r → K () env = some r ∧ actsV w ps (so.map (evalO ts)) ls (os'.map (evalO ts))
  | k, [], [], [], K, _, _, _, h => ⟨h, trivial⟩
  | k, o :: os', l :: ls, e :: es', K, h1, h2, hf, h => by
    simp only [List.map_cons, laysFit, Bool.and_eq_true] at hf
    simp only [laysChk, Rd.run_bind'] at h
    have ho : os[k]? = some o := by have := congrArg (·[0]?) h1; simpa using this.symm
    have he : es[k]? = some e := by have := congrArg (·[0]?) h2; simpa using this.symm
    obtain ⟨h, ha⟩ := lay_run R hc hg hso ho he (hes k o e ho he) hf.1 h
    obtain ⟨h, hb⟩ := lays_run R hc hg hso hes (k + 1) os' ls es' (by have := congrArg List.tail h1; simpa using this) (by have := congrArg List.tail h2; simpa using this) hf.2 h
    exact ⟨h, ha, hb⟩
  | k, [], [], _ :: _, _, _, _, hf, _ | k, [], _ :: _, _, _, _, _, hf, _ | k, _ :: _, [], _, _, _, _, hf, _ | k, _ :: _, _ :: _, [], _, _, _, hf, _ => by simp [laysFit] at hf

/-- the tables of contracts hold -/
structure TabOk (P : Program) (C : Ctx) : Prop where
  tab : ∀ f te, C.tab f = some te → CallOk P f te
  lay : ∀ f, ∀ t ∈ C.tabL f, CallOkL P f t

theorem call_run {f : Nat} {os : List Operand} {d : Option Nat} {K : Unit → Env → Option ρ} (hTab : TabOk P C) (R : RelX B G F [] env ts w) (hc : Cur env c) (hg : gOf c = true)
    (hl : ∀ dd, d = some dd → ∀ l ∈ B.lents, l.1 ≠ dd) (h : (callSem C c f os d).run c d env K = some r) :
    (∃ fn, P.funcs[f]? = some fn ∧ fn.body.isNone = false ∧ (fn.name == "runtime.NumGoroutine") = false) ∧
    Calls P f (os.map (evalO ts)).toArray w fun e w' => ∃ v, e = .returned v ∧ ∃ G' F' env', K () env' = some r ∧ RelX B G' F' [] env' (setO ts d v) w' ∧ env'.length = env.length := by
  have plain : ∀ {h : (do let te ← Rd.opt (C.tab f); callWith c te os d : Rd Unit).run c d env K = some r},
      (∃ fn, P.funcs[f]? = some fn ∧ fn.body.isNone = false ∧ (fn.name == "runtime.NumGoroutine") = false) ∧
      Calls P f (os.map (evalO ts)).toArray w fun e w' => ∃ v, e = .returned v ∧ ∃ G' F' env', K () env' = some r ∧ RelX B G' F' [] env' (setO ts d v) w' ∧ env'.length = env.length := by
    intro h
    rw [Rd.run_bind'] at h
    obtain ⟨te, hte, h⟩ := Rd.run_opt h
    obtain ⟨hfn, hcall⟩ := hTab.tab f te hte
    exact ⟨hfn, call_with R hc hg hl (fun G as s R q h1 h2 h3 h4 h5 h6 h7 => hcall w G as s _ R q h1 h2 h3 h4 h5 h6 h7) h⟩
  unfold callSem at h
  split at h
  · exact plain (h := h)
  · rw [Rd.run_bind'] at h
    obtain ⟨es, h, hlen, hes⟩ := entsO_run R hc hg os h
    split at h
    · rename_i t hfind
      have hmem := List.mem_of_find?_eq_some hfind
      have hfit := List.find?_some hfind
      rw [Rd.run_bind'] at h
      obtain ⟨so, hso, h⟩ := Rd.run_opt h
      rw [Rd.run_bind'] at h
      obtain ⟨h, hacts⟩ := lays_run R hc hg hso hes 0 os t.lay es rfl rfl hfit h
      obtain ⟨hfn, hcall⟩ := hTab.lay f t hmem
      exact ⟨hfn, call_with R hc hg hl (fun G as s R q h1 h2 h3 h4 h5 h6 h7 => hcall w G as s _ R q _ h1 h2 h3 h4 h5 h6 hacts h7) h⟩
    · exact plain (h := h)

end
end Go.VL

namespace Go.VL

/-- an operation has been carried out, or a call has been made and has come back -/
def OpDone {ρ : Type} (P : Program) (B : Base) (env : Env) (ts : List Value) (w : World) (o : Oper) (K : Unit → Env → Option ρ) (r : ρ) : Prop :=
  OpOut P B env ts w o K r ∨ ∃ f args, (execOp (evalO ts) o).run P w = .ok (.enter f args) w ∧
    Calls P f args w fun e w' => ∃ v, e = .returned v ∧ ∃ G' F' env', K () env' = some r ∧ RelX B G' F' [] env' (setO ts o.dst v) w' ∧ env'.length = env.length

section
variable {P : Program} {C : Ctx} {B : Base} {G : Nat → Prop} {F : Nat → List Res} {H : List (TV × Value)} {env : Env} {ts : List Value} {w : World}
variable {ρ : Type} {c : List GI} {r : ρ}

theorem run_enter {ty : TypeId} {pos : String} {after : Array Edge} {gd : Option (Nat × Bool)} {dst : Option Nat} {x : Operand} {as : Array Operand} {Ts : Array TypeId} {f : Nat} (hx : evalO ts x = .func (.func f) #[] #[])
    (hf : ∃ fn, P.funcs[f]? = some fn ∧ fn.body.isNone = false ∧ (fn.name == "runtime.NumGoroutine") = false) :
    (execOp (evalO ts) ⟨dst, .call ⟨.value x, as, Ts⟩, ty, pos, after, gd⟩).run P w = .ok (.enter f (as.toList.map (evalO ts)).toArray) w := by
  obtain ⟨fn, h1, h2, h3⟩ := hf
  have e : (as.toList.map (evalO ts)).toArray = as.map (evalO ts) := by rw [← Array.toList_map, Array.toArray_toList]
  simp only [execOp, resolve, hx, Deferred.ofValue, Sem.run_bind, Sem.run_pure, Result.andThen_ok, invoke, callFunc, e]
  have h3' : fn.name ≠ "runtime.NumGoroutine" := by simpa using h3
  have h2' : fn.body ≠ none := by intro h; rw [h] at h2; cases h2
  simp [program, Sem.run, h1, h2', h3']

theorem run_enterC {ty : TypeId} {pos : String} {after : Array Edge} {gd : Option (Nat × Bool)} {dst : Option Nat} {x : Operand} {as : Array Operand} {Ts : Array TypeId} {f : Nat} {cs : List Operand} (hx : evalO ts x = .func (.func f) #[] (cs.map (evalO ts)).toArray)
    (hf : ∃ fn, P.funcs[f]? = some fn ∧ fn.body.isNone = false ∧ (fn.name == "runtime.NumGoroutine") = false) :
    (execOp (evalO ts) ⟨dst, .call ⟨.value x, as, Ts⟩, ty, pos, after, gd⟩).run P w = .ok (.enter f ((as.toList ++ cs).map (evalO ts)).toArray) w := by
  obtain ⟨fn, h1, h2, h3⟩ := hf
  have e : ((as.toList ++ cs).map (evalO ts)).toArray = as.map (evalO ts) ++ (cs.map (evalO ts)).toArray := by
    rw [List.map_append, ← Array.toList_map]
    simp
  simp only [execOp, resolve, hx, Deferred.ofValue, Sem.run_bind, Sem.run_pure, Result.andThen_ok, invoke, callFunc, e]
  have h3' : fn.name ≠ "runtime.NumGoroutine" := by simpa using h3
  have h2' : fn.body ≠ none := by intro h; rw [h] at h2; cases h2
  simp [program, Sem.run, h1, h2', h3']

theorem capE_run {d : Option Nat} (R : RelX B G F [] env ts w) (hc : Cur env c) (hg : gOf c = true) : ∀ (os : List Operand) (e : Entry) {K : Entry → Env → Option ρ} {g : Fn} {b vs : Array Value}, slotRel G w env ts e (.func g b vs) [] → (∀ g e0, e ≠ .g g e0) →
    (capE c os e).run c d env K = some r → ∃ e', K e' env = some r ∧ slotRel G w env ts e' (.func g b (vs ++ (os.map (evalO ts)).toArray)) [] ∧ ∀ g e0, e' ≠ .g g e0
  | [], e, K, g, b, vs, hrel, hn, h => by
    simp only [capE, Rd.run_pure] at h
    exact ⟨e, h, by simpa using hrel, hn⟩
  | o :: os, e, K, g, b, vs, hrel, hn, h => by
    simp only [capE, Rd.run_bind'] at h
    obtain ⟨sl, h, ho⟩ := opnd_run R hc hg h
    obtain ⟨q, ep, p, h, ha⟩ := asPlace_run hg R ho h
    split at h
    case h_2 => simp at h
    rename_i hp
    simp only at hp
    subst hp
    rw [Rd.run_bind'] at h
    obtain ⟨t, m, x, h1, h2, h⟩ := root_run h
    obtain ⟨e', k1, k2, k3⟩ := capE_run R hc hg os (.cap e q ep) (g := g) (b := b) (vs := vs.push (evalO ts o)) ⟨rfl, g, b, vs, evalO ts o, hrel, ha, rfl⟩ (fun _ _ => by simp) h
    refine ⟨e', k1, ?_, k3⟩
    have : vs.push (evalO ts o) ++ (os.map (evalO ts)).toArray = vs ++ ((o :: os).map (evalO ts)).toArray := by
      apply Array.ext'
      simp
    rwa [this] at k2

theorem op_makeFunc {f : FuncId} {first capt : Array Operand} {d : Nat} {K : Unit → Env → Option ρ} {ty : TypeId} {pos : String} {after : Array Edge} {gd : Option (Nat × Bool)} (R : RelX B G F [] env ts w) (hc : Cur env c) (hg : gOf c = true) (hl : ∀ l ∈ B.lents, l.1 ≠ d)
    (h : (opSem C c ⟨some d, .makeFunc (.func f) first capt, ty, pos, after, gd⟩).run c (some d) env K = some r) : OpOut P B env ts w ⟨some d, .makeFunc (.func f) first capt, ty, pos, after, gd⟩ K r := by
  simp only [opSem, Rd.run_bind'] at h
  obtain ⟨hf, h⟩ := Rd.run_guard h
  have hf : first = #[] := by
    have := Array.isEmpty_iff.1 hf
    exact this
  subst hf
  obtain ⟨e', h, hrel, hn⟩ := capE_run R hc hg capt.toList (.val .fn .s (some f)) (g := .func f) (b := #[]) (vs := #[]) ⟨⟨rfl, rfl⟩, rfl⟩ (fun _ _ => by simp) h
  obtain ⟨F', env', k1, k2, k3⟩ := set_ref R hc hg hl hrel hn h
  have e : capt.map (evalO ts) = #[] ++ (capt.toList.map (evalO ts)).toArray := by
    apply Array.ext'
    simp
  refine ⟨_, _, _, _, _, .inl ?_, k1, k2, k3⟩
  rw [← e]
  simp [execOp, Instr.makeFunc, Sem.run_pure]

theorem fn_val {s : Nat} {sl : Sl} {v : Value} {m : Md} {f : Nat} (ho : OpRel G F env ts w (.tmp s) sl v) (he : sl.e = .val .fn m (some f)) : evalO ts (.tmp s) = .func (.func f) #[] #[] := by
  rcases ho.2 with hu | h
  · rw [he] at hu; cases hu
  · have h := h.2.2.2.2
    rw [he] at h
    have h1 := h.1
    simp only [unpack, Ty.agg, if_false, Bool.false_eq_true, rep, List.cons.injEq, and_true] at h1
    rw [← ho.1]
    exact h1.1

theorem call_tmp (hTab : TabOk P C) {dst : Option Nat} {s : Nat} {as : Array Operand} {Ts : Array TypeId} {ty : TypeId} {pos : String} {after : Array Edge} {gd : Option (Nat × Bool)} {K : Unit → Env → Option ρ} {sl : Sl} (R : RelX B G F [] env ts w) (hc : Cur env c) (hg : gOf c = true)
    (hl : ∀ dd, dst = some dd → ∀ l ∈ B.lents, l.1 ≠ dd) (ho : OpRel G F env ts w (.tmp s) sl (evalO ts (.tmp s)))
    (hk : (match sl.e with
      | .val .fn _ (some f) => callSem C c f as.toList dst
      | .cap e r ep => match cloF e with
        | some f => do
          capRoots (caps (.cap e r ep))
          callSem C c f (as.toList ++ (caps (.cap e r ep)).map fun x : Nat × Nat => Operand.tmp x.1) dst
        | none => .fail
      | _ => .fail).run c dst env K = some r) : OpDone P B env ts w ⟨dst, .call ⟨.value (.tmp s), as, Ts⟩, ty, pos, after, gd⟩ K r := by
  split at hk
  · rename_i m f he
    obtain ⟨h1, h2⟩ := call_run hTab R hc hg hl hk
    exact .inr ⟨f, _, run_enter (fn_val ho he) h1, h2⟩
  · rename_i e0 q ep he
    split at hk
    case h_2 => simp at hk
    rename_i f hf
    rw [Rd.run_bind'] at hk
    obtain ⟨hk, hfr⟩ := capRoots_run _ hk
    obtain ⟨h1, h2⟩ := call_run hTab R hc hg hl hk
    obtain ⟨f0, hrel⟩ := ho.ent he (by simp) (by simp)
    have hv := clo_val _ _ _ f hrel (show cloF (.cap e0 q ep) = some f from hf) hfr
    refine .inr ⟨f, _, run_enterC (cs := (caps (.cap e0 q ep)).map fun x : Nat × Nat => Operand.tmp x.1) ?_ h1, h2⟩
    rw [hv, List.map_map]
    rfl
  · simp at hk

theorem op_sound (hT : TysOk P C) (hE : EqsOk P C) (hTab : TabOk P C) {o : Oper} {K : Unit → Env → Option ρ} (R : RelX B G F [] env ts w) (hc : Cur env c) (hg : gOf c = true)
    (hl : ∀ dd, o.dst = some dd → ∀ l ∈ B.lents, l.1 ≠ dd) (h : (opSem C c o).run c o.dst env K = some r) : OpDone P B env ts w o K r := by
  obtain ⟨dst, op, ty, pos, after, gd⟩ := o
  cases dst with
  | none =>
    cases op with
    | store T x y => exact .inl (op_store hT R hc hg h)
    | call cl =>
      obtain ⟨cal, as, Ts⟩ := cl
      cases cal with
      | value x =>
        cases x with
        | func f =>
          simp only [opSem] at h
          obtain ⟨h1, h2⟩ := call_run hTab R hc hg hl h
          exact .inr ⟨f, _, run_enter rfl h1, h2⟩
        | tmp s =>
          simp only [opSem, Rd.run_bind'] at h
          obtain ⟨sl, hk, ho⟩ := opnd_run R hc hg h
          exact call_tmp hTab R hc hg hl ho hk
        | const v => simp [opSem] at h
        | global g => simp [opSem] at h
      | builtin b => cases b <;> simp [opSem] at h
      | invoke a b => simp [opSem] at h
    | _ => exfalso; simp [opSem] at h
  | some d =>
    have hl' := hl d rfl
    cases op with
    | move x => exact .inl (op_move R hc hg hl' h)
    | assign x => exact .inl (op_assign R hc hg hl' h)
    | pick x a b => exact .inl (op_pick R hc hg hl' h)
    | alloc T => exact .inl (op_alloc hT R hc hg hl' h)
    | box T x => exact .inl (op_box R hc hg hl' h)
    | load T x => exact .inl (op_load hT R hc hg hl' h)
    | nilCheck x => exact .inl (op_nilCheck R hc hg hl' h)
    | fieldAddr T x f => exact .inl (op_fieldAddr hT R hc hg hl' h)
    | indexAddr T x i => exact .inl (op_indexAddr hT R hc hg hl' h)
    | binOp op T x y T' => exact .inl (op_binOp hT hE R hc hg hl' h)
    | unOp op T x => exact .inl (op_unOp R hc hg hl' h)
    | convert S T x => exact .inl (op_convert hT R hc hg hl' h)
    | extract x i => exact .inl (op_extract R hc hg hl' h)
    | buildSlice T n ps => exact .inl (op_buildSlice hT R hc hg hl' h)
    | build T ps => exact .inl (op_build hT R hc hg hl' h)
    | makeSlice T x y => exact .inl (op_makeSlice hT R hc hg hl' h)
    | makeFunc fn first capt =>
      cases fn with
      | func f => exact .inl (op_makeFunc R hc hg hl' h)
      | _ => simp [opSem] at h
    | slice T x lo hi mx =>
      cases mx with
      | none => exact .inl (op_slice hT R hc hg hl' h)
      | some _ => simp [opSem] at h
    | call cl =>
      obtain ⟨cal, as, Ts⟩ := cl
      cases cal with
      | value x =>
        cases x with
        | func f =>
          simp only [opSem] at h
          obtain ⟨h1, h2⟩ := call_run hTab R hc hg hl h
          exact .inr ⟨f, _, run_enter rfl h1, h2⟩
        | tmp s =>
          simp only [opSem, Rd.run_bind'] at h
          obtain ⟨sl, hk, ho⟩ := opnd_run R hc hg h
          exact call_tmp hTab R hc hg hl ho hk
        | const v => simp [opSem] at h
        | global g => simp [opSem] at h
      | builtin b => 
        cases b with
        | len => exact .inl (op_len hT R hc hg hl' h)
        | append => exact .inl (op_append hT R hc hg hl' h)
        | max => exact .inl (op_max R hc hg hl' h)
        | min => exact .inl (op_min R hc hg hl' h)
        | _ => simp [opSem] at h
      | invoke a b => simp [opSem] at h
    | _ => exfalso; simp [opSem] at h

end
end Go.VL

namespace Go.VL

/-- the operands of an operation that VL knows -/
def opOperands : Op → Option (List Operand)
  | .move x | .assign x | .load _ x | .box _ x | .nilCheck x | .fieldAddr _ x _ | .extract x _ | .unOp _ _ x | .convert _ _ x => some [x]
  | .pick a b c => some [a, b, c]
  | .alloc _ => some []
  | .build _ ps | .buildSlice _ _ ps => some (ps.toList.map (·.2))
  | .store _ x y | .indexAddr _ x y | .makeSlice _ x y | .binOp _ _ x y _ => some [x, y]
  | .slice _ x lo hi mx => some (x :: (lo.toList ++ (hi.toList ++ mx.toList)))
  | .makeFunc (.func _) first capt => some (first.toList ++ capt.toList)
  | .call ⟨.value x, as, _⟩ => some (x :: as.toList)
  | .call ⟨.builtin _, as, _⟩ => some as.toList
  | _ => none

def tmpIn (n : Nat) : Operand → Bool
  | .tmp s => Nat.blt s n
  | _ => true
def opFits (n : Nat) (o : Oper) : Bool :=
  (match o.dst with | some d => Nat.blt d n | none => true) && (match opOperands o.op with | some l => l.all (tmpIn n) | none => true)
def codeFits (n : Nat) : Code → Bool
  | .region _ ops _ => ops.all (opFits n)
  | .seq x y => codeFits n x && codeFits n y
  | .cond o x y => tmpIn n o && (codeFits n x && codeFits n y)
  | .block _ x | .loop x => codeFits n x
  | _ => true

theorem map_ext {α β : Type} {f g : α → β} (as : Array α) (h : ∀ x ∈ as.toList, f x = g x) : as.map f = as.map g := by
  apply Array.ext'
  rw [Array.toList_map, Array.toList_map]
  exact List.map_congr_left h

theorem opt_ext {α β : Type} {f g : α → β} (o : Option α) (h : ∀ x ∈ o.toList, f x = g x) : o.map f = o.map g := by
  cases o with
  | none => rfl
  | some x => simp [h x (by simp)]

theorem exec_ext {ρ ρ' : Operand → Value} {o : Oper} {l : List Operand} (h : opOperands o.op = some l) (hl : ∀ x ∈ l, ρ x = ρ' x) : execOp ρ o = execOp ρ' o := by
  obtain ⟨dst, op, ty, pos, after, gd⟩ := o
  have parts : ∀ (ps : Array (Nat × Operand)), (∀ x ∈ ps.toList.map (·.2), ρ x = ρ' x) → (ps.map fun (i, x) => (i, ρ x)) = ps.map fun (i, x) => (i, ρ' x) := fun ps hp =>
    map_ext ps fun x hx => by
      obtain ⟨i, y⟩ := x
      simp only [Prod.mk.injEq, true_and]
      exact hp y (List.mem_map.2 ⟨_, hx, rfl⟩)
  cases op with
  | build T ps =>
    simp only [opOperands, Option.some.injEq] at h
    subst h
    simp only [execOp, parts ps hl]
  | buildSlice T n ps =>
    simp only [opOperands, Option.some.injEq] at h
    subst h
    simp only [execOp, parts ps hl]
  | slice T x lo hi mx =>
    simp only [opOperands, Option.some.injEq] at h
    subst h
    simp only [execOp, hl x (by simp), opt_ext lo (fun y hy => hl y (by simp [Option.mem_toList.1 hy])), opt_ext hi (fun y hy => hl y (by simp [Option.mem_toList.1 hy])), opt_ext mx (fun y hy => hl y (by simp [Option.mem_toList.1 hy]))]
  | makeFunc fn first capt =>
    cases fn <;> simp only [opOperands] at h <;> try (cases h; done)
    simp only [Option.some.injEq] at h
    subst h
    simp only [execOp, map_ext first (fun y hy => hl y (List.mem_append_left _ hy)), map_ext capt (fun y hy => hl y (List.mem_append_right _ hy))]
  | call cl =>
    obtain ⟨cal, as, Ts⟩ := cl
    cases cal with
    | value x =>
      simp only [opOperands, Option.some.injEq] at h
      subst h
      simp only [execOp, resolve, hl x (by simp), map_ext as (fun y hy => hl y (List.mem_cons_of_mem _ hy))]
    | builtin b =>
      simp only [opOperands, Option.some.injEq] at h
      subst h
      simp only [execOp, resolve, map_ext as hl]
    | invoke a b => simp [opOperands] at h
  | _ =>
    simp only [opOperands] at h
    first
    | (cases h; done)
    | (simp only [Option.some.injEq] at h
       subst h
       simp only [List.mem_cons, List.not_mem_nil, or_false, forall_eq_or_imp, forall_eq, false_imp_iff, implies_true] at hl
       simp only [execOp, hl])

theorem opSem_none {C : Ctx} {c : List GI} {o : Oper} {d : Option Nat} {env : Env} {ρ : Type} {K : Unit → Env → Option ρ} {r : ρ} (h : opOperands o.op = none) (hr : (opSem C c o).run c d env K = some r) : False := by
  obtain ⟨dst, op, ty, pos, after, gd⟩ := o
  cases op <;> simp only [opOperands] at h <;> try (cases h; done)
  all_goals first
    | (cases dst <;> simp [opSem] at hr; done)
    | skip
  · rename_i fn first capt
    cases fn <;> simp only at h <;> first | (cases h; done) | (cases dst <;> simp [opSem] at hr)
  · rename_i cl
    obtain ⟨cal, as, Ts⟩ := cl
    cases cal <;> simp only at h <;> first | (cases h; done) | (cases dst <;> simp [opSem] at hr)

theorem evalO_ext {ts gh : List Value} {x : Operand} (h : tmpIn ts.length x = true) : evalO (ts ++ gh) x = evalO ts x := by
  cases x with
  | tmp s =>
    simp only [tmpIn] at h
    have : s < ts.length := by simpa [Nat.blt_eq] using h
    simp [evalO, List.getD, List.getElem?_append_left this]
  | _ => rfl

theorem setO_ext {ts gh : List Value} {d : Option Nat} {v : Value} (h : ∀ dd, d = some dd → dd < ts.length) : setO (ts ++ gh) d v = setO ts d v ++ gh := by
  cases d with
  | none => rfl
  | some d => simp [setO, List.set_append_left d v (h d rfl)]

/-- the slots of an activation, and what lies behind them -/
@[reducible] def ats (a : Act) (gh : List Value) : List Value := a.tmps.toList ++ gh

theorem fits_dst {n : Nat} {o : Oper} (h : opFits n o = true) : ∀ d, o.dst = some d → d < n := by
  intro d hd
  simp only [opFits, hd, Bool.and_eq_true] at h
  simpa [Nat.blt_eq] using h.1

theorem fits_exec {n : Nat} {o : Oper} {ts gh : List Value} (h : opFits n o = true) (hn : ts.length = n) (ho : opOperands o.op ≠ none) : execOp (evalO (ts ++ gh)) o = execOp (evalO ts) o := by
  cases hl : opOperands o.op with
  | none => exact absurd hl ho
  | some l =>
    simp only [opFits, hl, Bool.and_eq_true, List.all_eq_true] at h
    exact exec_ext hl fun x hx => evalO_ext (by rw [hn]; exact h.2 x hx)

end Go.VL

namespace Go.VL

theorem Env.ext {e f : Env} (hl : e.length = f.length) (h : ∀ i, e.get i = f.get i) : e = f := by
  apply List.ext_getElem hl
  intro i h1 h2
  have := h i
  simpa [Env.get, List.getD, h1, h2] using this

theorem put_toList (a : Act) (d : Option Nat) (v : Value) : (a.put d v).tmps.toList = setO a.tmps.toList d v := by
  cases d <;> simp [Act.put, setO]

theorem put_size (a : Act) (d : Option Nat) (v : Value) : (a.put d v).tmps.size = a.tmps.size := by
  cases d <;> simp [Act.put]

theorem put_defers (a : Act) (d : Option Nat) (v : Value) : (a.put d v).defers = a.defers := by
  cases d <;> rfl

/-- slots that are forgotten -/
inductive Fog (c : List GI) (d : Nat) : Env → Env → Prop where
  | refl (e : Env) : Fog c d e e
  | step {e e1 : Env} (s : Nat) (b : Bk) (u : Entry) (hu : (u = .undef ∧ b = .all) ∨ (u = (e.get s).e ∧ ∃ t m x, u = .val t m x)) (h : s ≠ d) (hc : ∀ a ∈ c, a.slot ≠ s) (f : Fog c d (e.put ⟨s, b, u⟩) e1) : Fog c d e e1

theorem Fog.len {c : List GI} {d : Nat} {e e1 : Env} (f : Fog c d e e1) : e1.length = e.length := by
  induction f with
  | refl e => rfl
  | step s b u hu h hc f ih => rw [ih, Env.length_put]

theorem Fog.at {c : List GI} {d : Nat} {e e1 : Env} (f : Fog c d e e1) : e1.get d = e.get d := by
  induction f with
  | refl e => rfl
  | step s b u hu h hc f ih => rw [ih, Env.get_put_other _ ⟨s, b, u⟩ (Ne.symm h)]

/-- the same slots are forgotten of a state that differs in d alone -/
theorem Fog.like {c : List GI} {d : Nat} {e e1 : Env} (f : Fog c d e e1) : ∀ {e0 : Env}, e0.length = e.length → (∀ i, i ≠ d → e.get i = e0.get i) → ∃ e2, Fog c d e0 e2 ∧ e1.length = e2.length ∧ (∀ i, i ≠ d → e1.get i = e2.get i) := by
  induction f with
  | refl e => intro e0 hl h; exact ⟨e0, .refl _, hl.symm, h⟩
  | step s b u hu hs hc f ih =>
    rename_i e e1
    intro e0 hl h
    obtain ⟨e2, f2, h2, h3⟩ := ih (e0 := e0.put ⟨s, b, u⟩) (by rw [Env.length_put, Env.length_put, hl]) (fun i hi => by
      by_cases his : i = s
      · subst his
        by_cases hlt : i < e.length
        · rw [Env.get_putB e i b u hlt, Env.get_putB e0 i b u (by omega), h i hi]
        · have k1 : e.put ⟨i, b, u⟩ = e := by simp [Env.put, List.set_eq_of_length_le (Nat.le_of_not_lt hlt)]
          have k2 : e0.put ⟨i, b, u⟩ = e0 := by simp [Env.put, List.set_eq_of_length_le (by omega : e0.length ≤ i)]
          rw [k1, k2, h i hi]
      · rw [Env.get_put_other e ⟨s, b, u⟩ his, Env.get_put_other e0 ⟨s, b, u⟩ his, h i hi])
    exact ⟨e2, .step s b u (by rw [← h s hs]; exact hu) hs hc f2, h2, h3⟩

/-- a run under a guard turns its own slot alone, and forgets others -/
theorem run_false {α ρ : Type} {c : List GI} {d : Nat} {r : ρ} (hc : c ≠ []) (hgf : gOf c = false) (m : Rd α) : ∀ {env : Env} {K : α → Env → Option ρ}, m.run c (some d) env K = some r →
    ∃ a env' env1, K a env' = some r ∧ Fog c d env env1 ∧ env'.length = env1.length ∧ (∀ i, i ≠ d → env'.get i = env1.get i) ∧ (env' = env1 ∨ ∃ e, (env'.get d).e = .g c e) := by
  induction m with
  | ret a => intro env K h; exact ⟨a, env, env, h, .refl _, rfl, fun _ _ => rfl, .inl rfl⟩
  | get s k ih => intro env K h; exact ih _ h
  | hrd s k ih => intro env K h; exact ih _ h
  | put u k ih =>
    intro env K h
    simp only [Rd.run] at h
    cases hp : gPut c (some d) u with
    | none => simp [hp] at h
    | some u' =>
      simp only [hp] at h
      obtain ⟨a, env', env1, h1, hf, h2, h3, h4⟩ := ih h
      have hu : u'.s = d ∧ u'.e = .g c u.e := by
        unfold gPut at hp
        split at hp
        · exact absurd rfl hc
        · simp only at hp
          split at hp
          · rename_i hs
            simp only [Option.some.injEq] at hp
            subst hp
            exact ⟨by simpa using hs, rfl⟩
          · cases hp
      by_cases hd : d < env.length
      · obtain ⟨env2, f2, k2, k3⟩ := hf.like (e0 := env) (Env.length_put _ _).symm (fun i hi => Env.get_put_other env u' (by rw [hu.1]; exact hi))
        refine ⟨a, env', env2, h1, f2, h2.trans k2, fun i hi => (h3 i hi).trans (k3 i hi), .inr ?_⟩
        rcases h4 with rfl | h4
        · refine ⟨u.e, ?_⟩
          have := Env.get_put_same env u' (by rw [hu.1]; exact hd)
          rw [hu.1] at this
          rw [hf.at, this]
          exact (Up.on_e _ _).trans hu.2
        · exact h4
      · have e0 : env.put u' = env := by simp [Env.put, hu.1, List.set_eq_of_length_le (Nat.le_of_not_lt hd)]
        rw [e0] at hf
        exact ⟨a, env', env1, h1, hf, h2, h3, h4⟩
  | mov u k ih =>
    intro env K h
    simp only [Rd.run] at h
    cases hp : mPut c (some d) u (env.get u.s) with
    | none => simp [hp] at h
    | some u' =>
      simp only [hp] at h
      obtain ⟨_, k2, k3, k4, k5, k6⟩ := (mPut_cases hp).resolve_left (fun h => hc h.1)
      obtain ⟨a, env', env1, h1, hf, h2, h3, h4⟩ := ih h
      obtain ⟨s, b, e⟩ := u'
      simp only at k2 k3 k6
      subst k2 k3
      refine ⟨a, env', env1, h1, .step u.s u.b e ?_ (k4 d rfl) k5 hf, h2, h3, h4⟩
      rcases k6 with ⟨_, rfl, hb⟩ | ⟨t, m, y, z, _, hx, rfl⟩
      · exact .inl ⟨rfl, hb⟩
      · right
        rw [hgf, hx, mergeV_false]
        exact ⟨rfl, t, m, z, rfl⟩
  | chk b k ih =>
    intro env K h
    simp only [Rd.run] at h
    cases hb : okB c b with
    | false => simp [hb] at h
    | true => simp only [hb, cond_true] at h; exact ih h
  | call t as k ih =>
    intro env K h
    simp only [Rd.run, TE.run] at h
    split at h
    · cases h
    · obtain ⟨q, _, h⟩ := Option.bind_eq_some_iff.1 h
      exact ih _ h
  | fail => intro env K h; simp at h

theorem set_self (ts : List Value) (s : Nat) : ts.set s (ts.getD s undef) = ts := by
  apply List.ext_getElem (by simp)
  intro i h1 h2
  by_cases h : s = i
  · subst h; simp [List.getD, h2]
  · simp [List.getElem_set_ne h]

theorem Fog.rel {c : List GI} {d : Nat} {e e1 : Env} (f : Fog c d e e1) {B : Base} {G : Nat → Prop} {ts : List Value} {w : World} : ∀ {F : Nat → List Res}, RelX B G F [] e ts w → Cur e c → ∃ F1, RelX B G F1 [] e1 ts w ∧ Cur e1 c := by
  induction f with
  | refl e => intro F R hc; exact ⟨F, R, hc⟩
  | step s b u hu hs hcs f ih =>
    rename_i e e1
    intro F R hc
    by_cases hl : s < e.length
    · have hc2 : Cur (e.put ⟨s, b, u⟩) c := fun a ha => by rw [Env.get_put_other e ⟨s, b, u⟩ (hcs a ha)]; exact hc a ha
      rcases hu with ⟨rfl, rfl⟩ | ⟨hu, t, m, x, rfl⟩
      · have R1 := R.setSlot (d := s) (e := .undef) (c := ts.getD s undef) (f := []) hl trivial List.Pairwise.nil (fun _ _ r hr => by simp at hr) (fun r hr => by simp at hr) (fun _ _ h => by cases h) (fun _ _ _ _ _ _ h => by cases h)
        rw [set_self] at R1
        exact ih R1 hc2
      · have hv := (R.rootVal hu.symm).2
        have R1 := R.setRoot (G' := G) (r := s) (m2 := m) (x2 := x) (f' := F s) (w' := w) (X := fun _ _ => False) (b := b) hu.symm (fun _ h => h) (fun b hb j _ ⟨q, hq, e⟩ => (R.ok j q hq).1 (e ▸ hb)) R.gl (Turn.refl _ w)
          (fun _ _ h => h.elim) (fun _ _ h => h.elim) (fun _ _ _ h => h.elim) hv (R.nd s) (fun j hj => R.ap s j (Ne.symm hj)) (fun q hq => R.ok s q hq) (fun _ p u _ hgp => ⟨⟨u, hgp, rfl⟩, fun ad hw => ⟨hw, fun _ _ _ h => h⟩⟩)
        exact ih R1 hc2
    · have k1 : e.put ⟨s, b, u⟩ = e := by simp [Env.put, List.set_eq_of_length_le (Nat.le_of_not_lt hl)]
      rw [k1] at ih
      exact ih R hc

section
variable {P : Program} {C : Ctx} {B : Base} {G : Nat → Prop} {F : Nat → List Res} {env : Env} {w : World} {a : Act}
variable {ρ : Type} {r : ρ} {ops : Array Oper}

theorem current_run {c : List GI} {d : Option Nat} : ∀ (g : List GI) {K : Unit → Env → Option ρ}, (current g).run c d env K = some r → K () env = some r ∧ ∀ a ∈ g, (env.get a.slot).ep = a.ep
  | [], _, h => ⟨h, fun _ h => by simp at h⟩
  | a :: g, K, h => by
    simp only [current, Rd.run_bind', Rd.run_slot] at h
    obtain ⟨h1, h⟩ := Rd.run_guard h
    obtain ⟨h2, h3⟩ := current_run g h
    refine ⟨h2, fun b hb => ?_⟩
    rcases List.mem_cons.1 hb with rfl | hb
    · simpa using h1
    · exact h3 b hb

theorem chainOf_run {gh : List Value} {o : Oper} {K : List GI → Env → Option ρ} (hfit : ops.all (opFits a.tmps.size) = true) (R : RelX B G F [] env (ats a gh) w) (h : (chainOf ops o).run [] none env K = some r) :
    ∃ c, K c env = some r ∧ Cur env c ∧ Region.wanted o (yielded ops a.tmps) = gOf c := by
  unfold chainOf at h
  split at h
  · rename_i hg
    exact ⟨[], h, Cur.nil, by simp [Region.wanted, hg, gOf]⟩
  · rename_i j want hg
    split at h
    case h_2 => simp at h
    rename_i s hs
    simp only [Rd.run_bind', Rd.run_slot] at h
    have hy : ∀ v, a.tmps[s]? = some v → yielded ops a.tmps j = match v with | .bool b => some b | _ => none := fun v hv => by
      unfold yielded
      simp only [hs, Option.bind_some, hv]
      cases v <;> rfl
    have hval : ∀ e, (env.get s).e = e → e ≠ .undef → ∃ v, a.tmps[s]? = some v ∧ slotRel G w env (ats a gh) e v (F s) := fun e he hu => by
      have hlt := Env.get_lt he hu
      have hr := R.slot s hlt
      rw [he] at hr
      have hlt2 : s < a.tmps.size := by
        obtain ⟨oj, hoj, hdj⟩ := Option.bind_eq_some_iff.1 hs
        exact fits_dst (Array.all_eq_true_iff_forall_mem.1 hfit oj (Array.mem_of_getElem? hoj)) s hdj
      refine ⟨a.tmps[s], by simp [hlt2], ?_⟩
      have e2 : (ats a gh).getD s undef = a.tmps[s] := by simp [ats, List.getD, List.getElem?_append_left (by simpa using hlt2 : s < a.tmps.toList.length), hlt2]
      rw [e2] at hr
      exact hr
    split at h
    · rename_i m v he
      simp only [Rd.run_pure] at h
      obtain ⟨x, hx, hr⟩ := hval _ he (by simp)
      have h1 := hr.1
      simp only [unpack, Ty.agg, if_false, Bool.false_eq_true, rep, List.cons.injEq, and_true] at h1
      refine ⟨_, h, fun b hb => ?_, ?_⟩
      · simp only [List.mem_cons, List.not_mem_nil, or_false] at hb
        subst hb
        exact ⟨rfl, by simp only [he]; rfl⟩
      · have hyv := hy x hx
        rw [h1.1] at hyv
        simp only [Region.wanted, hg, hyv, gOf, GI.ok]
        cases want <;> cases v <;> rfl
    · rename_i g m v he
      rw [Rd.run_bind'] at h
      obtain ⟨h, hcur⟩ := current_run g h
      simp only [Rd.run_pure] at h
      obtain ⟨x, hx, hr⟩ := hval _ he (by simp)
      refine ⟨_, h, fun b hb => ?_, ?_⟩
      · rcases List.mem_cons.1 hb with rfl | hb
        · exact ⟨rfl, by simp only [he]; rfl⟩
        · have := R.chain s g _ he b hb
          exact ⟨hcur b hb, this.2 (hcur b hb)⟩
      · have hyv := hy x hx
        have hgo : gOf (⟨s, (env.get s).ep, want, v⟩ :: g) = ((⟨s, (env.get s).ep, want, v⟩ : GI).ok && gOf g) := by
          cases g <;> simp [gOf]
        rw [hgo]
        simp only [slotRel] at hr
        split at hr
        · rename_i hgt
          have h1 := hr.1
          simp only [unpack, Ty.agg, if_false, Bool.false_eq_true, rep, List.cons.injEq, and_true] at h1
          rw [h1.1] at hyv
          simp only [Region.wanted, hg, hyv, GI.ok, hgt]
          cases want <;> cases v <;> rfl
        · rename_i hgf
          rw [hr.1] at hyv
          simp only [Region.wanted, hg, hyv, hgf, Bool.and_false]
          rfl
    · simp at h

/-- an operation of a region -/
theorem runOp_sound {gh : List Value} (hT : TysOk P C) (hE : EqsOk P C) (hTab : TabOk P C) {o : Oper} {K : Env → Option ρ} (hfit : ops.all (opFits a.tmps.size) = true) (hfo : opFits a.tmps.size o = true) (R : RelX B G F [] env (ats a gh) w)
    (hl : ∀ dd, o.dst = some dd → ∀ l ∈ B.lents, l.1 ≠ dd) (h : runOp C ops o env K = some r) {next : Act → World → Prop} {Q : Exit → Act → World → Prop}
    (hn : ∀ v w' G' F' env', K env' = some r → RelX B G' F' [] env' (ats (a.put o.dst v) gh) w' → env'.length = env.length → next (a.put o.dst v) w') :
    if Region.wanted o (yielded ops a.tmps) then o.wp P a w next Q else next (a.put o.dst undef) w := by
  unfold runOp at h
  obtain ⟨c, h, hc, hw⟩ := chainOf_run hfit R h
  have hset : ∀ v, setO (ats a gh) o.dst v = ats (a.put o.dst v) gh := fun v => by
    simp only [ats]
    rw [setO_ext (fun d hd => by simpa using fits_dst hfo d hd), put_toList]
  have hev : a.eval = evalO a.tmps.toList := funext (eval_eq a)
  have done : ∀ {c : List GI} {K' : Unit → Env → Option ρ}, Cur env c → gOf c = true → (opSem C c o).run c o.dst env K' = some r → (∀ env', K' () env' = some r → K env' = some r) → o.wp P a w next Q := by
    intro c K' hc hg h hK
    unfold Oper.wp
    rw [hev, ← fits_exec (gh := gh) hfo (by simp) (fun hno => opSem_none hno h)]
    rcases op_sound hT hE hTab R hc hg hl h with ⟨v, w', G', F', env', h1, h2, h3, h4⟩ | ⟨f, args, h1, h2⟩
    · rcases h1 with h1 | ⟨h1, rfl⟩
      · rw [h1, Oper.upon_value]
        exact hn v w' G' F' env' (hK _ h2) (hset v ▸ h3) h4
      · rw [h1, Oper.upon_skip]
        exact hn undef w' G' F' env' (hK _ h2) (hset undef ▸ h3) h4
    · rw [h1, Oper.upon_enter]
      refine Calls.mono h2 ?_
      rintro e w' ⟨v, rfl, G', F', env', h3, h4, h5⟩
      exact hn v w' G' F' env' (hK _ h3) (hset v ▸ h4) h5
  split at h
  · rw [hw]
    simp only [gOf, if_true]
    exact done Cur.nil rfl h (fun _ h => h)
  · rename_i b c d hd
    split at h
    case h_2 => cases h
    cases hg : gOf (b :: c) with
    | true =>
      rw [hw, hg]
      simp only [if_true]
      refine done hc hg h (fun env' h => ?_)
      split at h
      · exact h
      · cases h
    | false =>
      rw [hw, hg]
      simp only [Bool.false_eq_true, if_false]
      rw [hd] at h
      obtain ⟨_, env', env0, h, hfog, h2, h3, h4⟩ := run_false (by simp) hg _ h
      obtain ⟨F, R, hc⟩ := hfog.rel R hc
      have hd0 := hfog.at
      have hl0 := hfog.len
      split at h
      case h_2 => cases h
      rename_i hck
      simp only [Bool.and_eq_true, beq_iff_eq] at hck
      have hdl : d < env0.length := by
        rcases Nat.lt_or_ge d env0.length with h' | h'
        · exact h'
        · have e1 : env'.get d = ⟨0, 0, [], .undef⟩ := by simp [Env.get, List.getD, List.getElem?_eq_none (by rw [h2]; exact h')]
          have h10 := hck.1.1
          rw [e1] at h10
          simp at h10
      obtain ⟨e, he⟩ := h4.resolve_left (fun h' => by rw [h', hd0] at hck; omega)
      have henv : env' = env0.put ⟨d, .all, .g (b :: c) e⟩ := by
        apply Env.ext
        · rw [h2, Env.length_put]
        · intro i
          by_cases hi : i = d
          · subst hi
            rw [Env.get_put' env0 i _ hdl]
            obtain ⟨⟨h5, h6⟩, h7⟩ := hck
            rw [← hd0] at h5 h6
            generalize env'.get i = x at he h5 h6 h7
            cases x
            simp only [List.isEmpty_iff] at he h5 h6 h7
            subst he h5 h6 h7
            rfl
          · rw [h3 i hi, Env.get_put_other env0 ⟨d, .all, .g (b :: c) e⟩ hi]
      subst henv
      have R' := R.setSlot (d := d) (e := .g (b :: c) e) (c := undef) (f := []) hdl (by simp [slotRel, hg]) List.Pairwise.nil (fun _ _ r hr => by simp at hr) (fun r hr => by simp at hr)
        (fun g e' he a ha => by
          cases he
          obtain ⟨h1, h2⟩ := hc a ha
          exact ⟨by omega, fun _ => h2⟩) (fun _ _ _ _ _ _ h => by cases h)
      exact hn undef w G _ _ h (by rw [← hset, hd]; exact R') ((Env.length_put _ _).trans hl0)
  · cases h

/-- the operations of a region, in some order -/
theorem runOps_sound {gh : List Value} {nt : Nat} (hT : TysOk P C) (hE : EqsOk P C) (hTab : TabOk P C) (hfit : ops.all (opFits nt) = true) {Q : Exit → Act → World → Prop} (hl : ∀ o ∈ ops, ∀ dd, o.dst = some dd → ∀ l ∈ B.lents, l.1 ≠ dd) {K : Env → Option ρ} : ∀ (l : List Nat) {G : Nat → Prop} {F : Nat → List Res} {env : Env} {w : World} {a : Act},
    RelX B G F [] env (ats a gh) w → a.tmps.size = nt → a.defers = [] → runOps C ops (l.filterMap (ops[·]?)) env K = some r →
    (∀ a' w' G' F' env', K env' = some r → RelX B G' F' [] env' (ats a' gh) w' → a'.tmps.size = nt → env'.length = env.length → a'.defers = [] → Q .normal a' w') → wpOps P ops Q l a w
  | [], G, F, env, w, a, R, hs, hd, h, hQ => hQ a w G F env h R hs rfl hd
  | i :: l, G, F, env, w, a, R, hs, hd, h, hQ => by
    rw [wpOps_cons]
    unfold wpOp
    cases ho : ops[i]? with
    | none =>
      simp only [List.filterMap_cons, ho] at h
      exact runOps_sound hT hE hTab hfit hl l R hs hd h hQ
    | some o =>
      simp only [List.filterMap_cons, ho, runOps] at h
      have := runOp_sound hT hE hTab (a := a) (next := wpOps P ops Q l) (Q := Q) (gh := gh) (hs ▸ hfit) (hs ▸ Array.all_eq_true_iff_forall_mem.1 hfit o (Array.mem_of_getElem? ho)) R (hl o (Array.mem_of_getElem? ho)) h (fun v w' G' F' env' h1 h2 h3 =>
        runOps_sound hT hE hTab hfit hl l h2 (by rw [put_size]; exact hs) (by rw [put_defers]; exact hd) h1 (fun a' w' G' F' env'' k1 k2 k5 k3 k4 => hQ a' w' G' F' env'' k1 k2 k5 (k3.trans h3) k4))
      simp only
      split
      · rename_i hw
        simp only [hw, if_true] at this
        exact .inl this
      · rename_i hw
        simp only [hw] at this
        exact this

theorem range_filterMap {α : Type} : ∀ (l : List α), (List.range l.length).filterMap (l[·]?) = l
  | [] => rfl
  | x :: l => by
    rw [List.length_cons, List.range_succ_eq_map, List.filterMap_cons]
    simp only [List.getElem?_cons_zero, List.filterMap_map]
    congr 1
    exact range_filterMap l

theorem range_ops (ops : Array Oper) : (List.range ops.size).filterMap (ops[·]?) = ops.toList := by
  have := range_filterMap ops.toList
  simpa using this

end
end Go.VL

namespace Go.VL

/-- a run, with what it reads and writes -/
def Rd.tr {α : Type} (c : List GI) (d : Option Nat) : Rd α → Env → Option (α × Env × Nat × Nat)
  | .ret a, env => some (a, env, 0, 0)
  | .get s k, env => ((k (env.get s)).tr c d env).map fun x => (x.1, x.2.1, bitB s ||| x.2.2.1, x.2.2.2)
  | .hrd s k, env => ((k (hardOf (env.get s))).tr c d env).map fun x => (x.1, x.2.1, 2 ^ (2 * s) ||| x.2.2.1, x.2.2.2)
  | .put u k, env => match gPut c d u with
    | some u => (k.tr c d (env.put u)).map fun x => (x.1, x.2.1, x.2.2.1, bitB u.s ||| x.2.2.2)
    | none => none
  | .mov u k, env => match mPut c d u (env.get u.s) with
    | some u => (k.tr c d (env.put u)).map fun x => (x.1, x.2.1, x.2.2.1, bitU u (env.get u.s) ||| x.2.2.2)
    | none => none
  | .chk b k, env => bif okB c b then k.tr c d env else none
  | .call t as k, env => t.run (gOf c) as fun r => (k r).tr c d env
  | .fail, _ => none

section
variable {α ρ : Type} {c : List GI} {d : Option Nat} {r : ρ}

theorem runT_tr (m : Rd α) : ∀ {env : Env} {R W : Nat} {K : α → Env → Nat → Nat → Option ρ}, m.runT c d env R W K = some r →
    ∃ a e R' W', m.tr c d env = some (a, e, R', W') ∧ K a e (R ||| R') (W ||| W') = some r := by
  induction m with
  | ret a => intro env R W K h; exact ⟨a, env, 0, 0, rfl, by rw [Nat.or_zero, Nat.or_zero]; exact h⟩
  | get s k ih =>
    intro env R W K h
    obtain ⟨a, e, R', W', h1, h2⟩ := ih _ h
    exact ⟨a, e, bitB s ||| R', W', by simp [Rd.tr, h1], by rwa [← Nat.or_assoc]⟩
  | hrd s k ih =>
    intro env R W K h
    obtain ⟨a, e, R', W', h1, h2⟩ := ih _ h
    exact ⟨a, e, 2 ^ (2 * s) ||| R', W', by simp [Rd.tr, h1], by rwa [← Nat.or_assoc]⟩
  | put u k ih =>
    intro env R W K h
    simp only [Rd.runT] at h
    cases hp : gPut c d u with
    | none => simp [hp] at h
    | some u' =>
      simp only [hp] at h
      obtain ⟨a, e, R', W', h1, h2⟩ := ih h
      exact ⟨a, e, R', bitB u'.s ||| W', by simp [Rd.tr, hp, h1], by rwa [← Nat.or_assoc]⟩
  | mov u k ih =>
    intro env R W K h
    simp only [Rd.runT] at h
    cases hp : mPut c d u (env.get u.s) with
    | none => simp [hp] at h
    | some u' =>
      simp only [hp] at h
      obtain ⟨a, e, R', W', h1, h2⟩ := ih h
      exact ⟨a, e, R', bitU u' (env.get u'.s) ||| W', by simp [Rd.tr, hp, h1], by rwa [← Nat.or_assoc]⟩
  | chk b k ih =>
    intro env R W K h
    simp only [Rd.runT] at h
    cases hb : okB c b with
    | false => simp [hb] at h
    | true =>
      simp only [hb, cond_true] at h
      obtain ⟨a, e, R', W', h1, h2⟩ := ih h
      exact ⟨a, e, R', W', by simp only [Rd.tr, hb, cond_true]; exact h1, h2⟩
  | call t as k ih =>
    intro env R W K h
    simp only [Rd.runT, TE.run] at h
    split at h
    · cases h
    · rename_i s hs
      obtain ⟨q, hq, h⟩ := Option.bind_eq_some_iff.1 h
      obtain ⟨a, e, R', W', h1, h2⟩ := ih _ h
      exact ⟨a, e, R', W', by simp only [Rd.tr, TE.run, hs]; rw [hq]; exact h1, h2⟩
  | fail => intro env R W K h; simp [Rd.runT] at h

theorem run_tr (m : Rd α) : ∀ {env : Env} {a : α} {e : Env} {R W : Nat}, m.tr c d env = some (a, e, R, W) → ∀ (K : α → Env → Option ρ), m.run c d env K = K a e := by
  induction m with
  | ret a => intro env a' e R W h K; simp only [Rd.tr, Option.some.injEq, Prod.mk.injEq] at h; obtain ⟨rfl, rfl, _⟩ := h; rfl
  | get s k ih =>
    intro env a e R W h K
    simp only [Rd.tr, Option.map_eq_some_iff] at h
    obtain ⟨⟨a', e', R', W'⟩, h1, h2⟩ := h
    simp only [Prod.mk.injEq] at h2
    obtain ⟨rfl, rfl, _⟩ := h2
    exact ih _ h1 K
  | hrd s k ih =>
    intro env a e R W h K
    simp only [Rd.tr, Option.map_eq_some_iff] at h
    obtain ⟨⟨a', e', R', W'⟩, h1, h2⟩ := h
    simp only [Prod.mk.injEq] at h2
    obtain ⟨rfl, rfl, _⟩ := h2
    exact ih _ h1 K
  | put u k ih =>
    intro env a e R W h K
    simp only [Rd.tr] at h
    cases hp : gPut c d u with
    | none => simp [hp] at h
    | some u' =>
      simp only [hp, Option.map_eq_some_iff] at h
      obtain ⟨⟨a', e', R', W'⟩, h1, h2⟩ := h
      simp only [Prod.mk.injEq] at h2
      obtain ⟨rfl, rfl, _⟩ := h2
      simp only [Rd.run, hp]
      exact ih h1 K
  | mov u k ih =>
    intro env a e R W h K
    simp only [Rd.tr] at h
    cases hp : mPut c d u (env.get u.s) with
    | none => simp [hp] at h
    | some u' =>
      simp only [hp, Option.map_eq_some_iff] at h
      obtain ⟨⟨a', e', R', W'⟩, h1, h2⟩ := h
      simp only [Prod.mk.injEq] at h2
      obtain ⟨rfl, rfl, _⟩ := h2
      simp only [Rd.run, hp]
      exact ih h1 K
  | chk b k ih =>
    intro env a e R W h K
    simp only [Rd.tr] at h
    cases hb : okB c b with
    | false => simp [hb] at h
    | true =>
      simp only [hb, cond_true] at h
      simp only [Rd.run, hb, cond_true]
      exact ih h K
  | call t as k ih =>
    intro env a e R W h K
    simp only [Rd.tr, TE.run] at h
    split at h
    · cases h
    · rename_i s hs
      obtain ⟨q, hq, h⟩ := Option.bind_eq_some_iff.1 h
      simp only [Rd.run, TE.run, hs]
      rw [hq]
      exact ih _ h K
  | fail => intro env a e R W h K; simp [Rd.tr] at h

theorem get_put_any (env : Env) (u : Up) (s : Nat) : (env.put u).get s = if s = u.s ∧ u.s < env.length then u.on (env.get u.s) else env.get s := by
  by_cases h : s = u.s
  · subst h
    by_cases hl : u.s < env.length
    · simp [hl, Env.get_put_same env u hl]
    · simp [hl, Env.put, List.set_eq_of_length_le (Nat.le_of_not_lt hl)]
  · simp [h, Env.get_put_other env u h]

theorem bit_pow (s i : Nat) : (2 ^ s : Nat).testBit i = decide (s = i) := Nat.testBit_two_pow

theorem bitB_soft (s i : Nat) : (bitB s).testBit (2 * i + 1) = decide (s = i) := by
  simp only [bitB, Nat.testBit_or, bit_pow]
  by_cases h : s = i
  · subst h; simp
  · rw [decide_eq_false (show ¬ (2 * s = 2 * i + 1) by omega), decide_eq_false (show ¬ (2 * s + 1 = 2 * i + 1) by omega), decide_eq_false h]; rfl
theorem bitB_hard (s i : Nat) : (bitB s).testBit (2 * i) = decide (s = i) := by
  simp only [bitB, Nat.testBit_or, bit_pow]
  by_cases h : s = i
  · subst h; simp
  · rw [decide_eq_false (show ¬ (2 * s = 2 * i) by omega), decide_eq_false (show ¬ (2 * s + 1 = 2 * i) by omega), decide_eq_false h]; rfl
theorem bitU_soft (u : Up) (x : Sl) (i : Nat) : (bitU u x).testBit (2 * i + 1) = decide (u.s = i) := by
  unfold bitU
  split
  · rw [bit_pow]
    by_cases h : u.s = i
    · subst h; simp
    · rw [decide_eq_false (show ¬ (2 * u.s + 1 = 2 * i + 1) by omega), decide_eq_false h]
  · exact bitB_soft _ _
theorem bitU_hard {u : Up} {x : Sl} {i : Nat} (h : (bitU u x).testBit (2 * i) = false) (hi : u.s = i) : softUp u x = true := by
  unfold bitU at h
  split at h
  · assumption
  · rw [bitB_hard] at h; simp [hi] at h

theorem softUp_hard {u : Up} {x : Sl} (h : softUp u x = true) : hardOf (u.on x) = hardOf x := by
  unfold softUp at h
  split at h
  · cases h
  · rename_i hb
    split at h
    · rename_i t m y t' m' z he hx
      simp only [Bool.and_eq_true, decide_eq_true_eq] at h
      obtain ⟨rfl, hle⟩ := h
      have hle : x.hs.length ≤ x.ep := Nat.ble_eq ▸ hle
      have hbb : u.b = .no ∨ ∃ q, u.b = .at q := by
        cases hub : u.b with
        | no => exact .inl rfl
        | all => exact absurd hub hb
        | «at» q => exact .inr ⟨q, rfl⟩
      rcases hbb with hbb | ⟨q, hbb⟩
      · simp only [hardOf, Up.on, hbb, he, hx]
      · simp only [hardOf, Up.on, hbb, he, hx, List.length_cons]
        congr 1
        omega
    · cases h

/-- two states agree where something is read or written: the soft bit speaks of the whole slot, the hard bit of its hard part -/
def Agree (M : Nat) (e1 e2 : Env) : Prop := ∀ s, (M.testBit (2 * s + 1) = true → e1.get s = e2.get s) ∧ (M.testBit (2 * s) = true → hardOf (e1.get s) = hardOf (e2.get s))

theorem Agree.or {M N : Nat} {e1 e2 : Env} (h : Agree (M ||| N) e1 e2) : Agree M e1 e2 ∧ Agree N e1 e2 :=
  ⟨fun s => ⟨fun k => (h s).1 (by simp [Nat.testBit_or, k]), fun k => (h s).2 (by simp [Nat.testBit_or, k])⟩,
   fun s => ⟨fun k => (h s).1 (by simp [Nat.testBit_or, k]), fun k => (h s).2 (by simp [Nat.testBit_or, k])⟩⟩

/-- what is not written stays -/
def Stays (W : Nat) (e e0 : Env) : Prop := ∀ s, (W.testBit (2 * s + 1) = false → e.get s = e0.get s) ∧ (W.testBit (2 * s) = false → hardOf (e.get s) = hardOf (e0.get s))

theorem Stays.refl (e : Env) : Stays 0 e e := fun _ => ⟨fun _ => rfl, fun _ => rfl⟩
theorem Stays.trans {W V : Nat} {a b c : Env} (h : Stays W b a) (k : Stays V c b) : Stays (W ||| V) c a := fun s => by
  simp only [Nat.testBit_or, Bool.or_eq_false_iff]
  exact ⟨fun hs => ((k s).1 hs.2).trans ((h s).1 hs.1), fun hs => ((k s).2 hs.2).trans ((h s).2 hs.1)⟩

theorem stays_put (env : Env) (u : Up) : Stays (bitB u.s) (env.put u) env := fun s => by
  rw [bitB_soft, bitB_hard]
  by_cases h : u.s = s
  · simp [h]
  · rw [Env.get_put_other env u (Ne.symm h)]; exact ⟨fun _ => rfl, fun _ => rfl⟩

theorem stays_mov (env : Env) (u : Up) : Stays (bitU u (env.get u.s)) (env.put u) env := fun s => by
  by_cases h : u.s = s
  · refine ⟨fun hs => by rw [bitU_soft] at hs; simp [h] at hs, fun hs => ?_⟩
    have hsoft := bitU_hard hs h
    rw [get_put_any]
    split
    · rename_i hh; rw [hh.1]; exact softUp_hard hsoft
    · rfl
  · rw [Env.get_put_other env u (Ne.symm h)]; exact ⟨fun _ => rfl, fun _ => rfl⟩

theorem tr_keep (m : Rd α) : ∀ {env : Env} {a : α} {e : Env} {R W : Nat}, m.tr c d env = some (a, e, R, W) → e.length = env.length ∧ Stays W e env := by
  induction m with
  | ret a => intro env a' e R W h; simp only [Rd.tr, Option.some.injEq, Prod.mk.injEq] at h; obtain ⟨_, rfl, _, rfl⟩ := h; exact ⟨rfl, Stays.refl _⟩
  | get s k ih =>
    intro env a e R W h
    simp only [Rd.tr, Option.map_eq_some_iff] at h
    obtain ⟨⟨a', e', R', W'⟩, h1, h2⟩ := h
    simp only [Prod.mk.injEq] at h2
    obtain ⟨rfl, rfl, rfl, rfl⟩ := h2
    exact ih _ h1
  | hrd s k ih =>
    intro env a e R W h
    simp only [Rd.tr, Option.map_eq_some_iff] at h
    obtain ⟨⟨a', e', R', W'⟩, h1, h2⟩ := h
    simp only [Prod.mk.injEq] at h2
    obtain ⟨rfl, rfl, rfl, rfl⟩ := h2
    exact ih _ h1
  | put u k ih =>
    intro env a e R W h
    simp only [Rd.tr] at h
    cases hp : gPut c d u with
    | none => simp [hp] at h
    | some u' =>
      simp only [hp, Option.map_eq_some_iff] at h
      obtain ⟨⟨a', e', R', W'⟩, h1, h2⟩ := h
      simp only [Prod.mk.injEq] at h2
      obtain ⟨rfl, rfl, rfl, rfl⟩ := h2
      obtain ⟨h3, h4⟩ := ih h1
      exact ⟨by rw [h3, Env.length_put], (stays_put env u').trans h4⟩
  | mov u k ih =>
    intro env a e R W h
    simp only [Rd.tr] at h
    cases hp : mPut c d u (env.get u.s) with
    | none => simp [hp] at h
    | some u' =>
      simp only [hp, Option.map_eq_some_iff] at h
      obtain ⟨⟨a', e', R', W'⟩, h1, h2⟩ := h
      simp only [Prod.mk.injEq] at h2
      obtain ⟨rfl, rfl, rfl, rfl⟩ := h2
      obtain ⟨h3, h4⟩ := ih h1
      exact ⟨by rw [h3, Env.length_put], (stays_mov env u').trans h4⟩
  | chk b k ih =>
    intro env a e R W h
    simp only [Rd.tr] at h
    cases hb : okB c b with
    | false => simp [hb] at h
    | true => simp only [hb, cond_true] at h; exact ih h
  | call t as k ih =>
    intro env a e R W h
    simp only [Rd.tr, TE.run] at h
    split at h
    · cases h
    · obtain ⟨q, hq, h⟩ := Option.bind_eq_some_iff.1 h
      exact ih _ h
  | fail => intro env a e R W h; simp [Rd.tr] at h

/-- the same write turns two states that agree into two that agree -/
theorem Agree.put {M : Nat} {env env2 : Env} (h : Agree M env2 env) (u : Up) (hl : env2.length = env.length) (hu : env2.get u.s = env.get u.s) : Agree M (env2.put u) (env.put u) := fun s => by
  rw [get_put_any, get_put_any, hl, hu]
  split
  · exact ⟨fun _ => rfl, fun _ => rfl⟩
  · exact h s

theorem tr_local (m : Rd α) : ∀ {env env2 : Env} {a : α} {e : Env} {R W : Nat}, m.tr c d env = some (a, e, R, W) → env2.length = env.length → Agree (R ||| W) env2 env →
    ∃ e2, m.tr c d env2 = some (a, e2, R, W) ∧ ∀ s, env2.get s = env.get s ∨ W.testBit (2 * s + 1) = true → e2.get s = e.get s := by
  induction m with
  | ret a =>
    intro env env2 a' e R W h hl hs
    simp only [Rd.tr, Option.some.injEq, Prod.mk.injEq] at h
    obtain ⟨rfl, rfl, rfl, rfl⟩ := h
    exact ⟨env2, rfl, fun s h => h.resolve_right (by simp)⟩
  | get s k ih =>
    intro env env2 a e R W h hl hs
    simp only [Rd.tr, Option.map_eq_some_iff] at h
    obtain ⟨⟨a', e', R', W'⟩, h1, h2⟩ := h
    simp only [Prod.mk.injEq] at h2
    obtain ⟨rfl, rfl, rfl, rfl⟩ := h2
    rw [Nat.or_assoc] at hs
    obtain ⟨hs1, hs2⟩ := hs.or
    obtain ⟨e2, h3, h4⟩ := ih _ h1 hl hs2
    refine ⟨e2, ?_, h4⟩
    simp only [Rd.tr]
    rw [(hs1 s).1 (by rw [bitB_soft]; simp), h3]
    rfl
  | hrd s k ih =>
    intro env env2 a e R W h hl hs
    simp only [Rd.tr, Option.map_eq_some_iff] at h
    obtain ⟨⟨a', e', R', W'⟩, h1, h2⟩ := h
    simp only [Prod.mk.injEq] at h2
    obtain ⟨rfl, rfl, rfl, rfl⟩ := h2
    rw [Nat.or_assoc] at hs
    obtain ⟨hs1, hs2⟩ := hs.or
    obtain ⟨e2, h3, h4⟩ := ih _ h1 hl hs2
    refine ⟨e2, ?_, h4⟩
    simp only [Rd.tr]
    rw [(hs1 s).2 (by rw [bit_pow]; simp), h3]
    rfl
  | put u k ih =>
    intro env env2 a e R W h hl hs
    simp only [Rd.tr] at h
    cases hp : gPut c d u with
    | none => simp [hp] at h
    | some u' =>
      simp only [hp, Option.map_eq_some_iff] at h
      obtain ⟨⟨a', e', R', W'⟩, h1, h2⟩ := h
      simp only [Prod.mk.injEq] at h2
      obtain ⟨rfl, rfl, rfl, rfl⟩ := h2
      have hu := (hs u'.s).1 (by simp [Nat.testBit_or, bitB_soft])
      have hs2 : Agree (R' ||| W') env2 env := fun s => ⟨fun k => (hs s).1 (by simp only [Nat.testBit_or, Bool.or_eq_true] at k ⊢; rcases k with k | k <;> simp [k]), fun k => (hs s).2 (by simp only [Nat.testBit_or, Bool.or_eq_true] at k ⊢; rcases k with k | k <;> simp [k])⟩
      obtain ⟨e2, h3, h4⟩ := ih h1 (env2 := env2.put u') (by rw [Env.length_put, Env.length_put, hl]) (hs2.put u' hl hu)
      refine ⟨e2, by simp [Rd.tr, hp, h3], fun i hi => h4 i ?_⟩
      rw [get_put_any, get_put_any, hl, hu]
      by_cases hiu : i = u'.s
      · subst hiu
        left
        split
        · rfl
        · exact hu
      · simp only [hiu, false_and, if_false]
        rcases hi with hi | hi
        · exact .inl hi
        · right
          simp only [Nat.testBit_or, bitB_soft, Bool.or_eq_true, decide_eq_true_eq] at hi
          exact hi.resolve_left (Ne.symm hiu)
  | mov u k ih =>
    intro env env2 a e R W h hl hs
    simp only [Rd.tr] at h
    cases hp : mPut c d u (env.get u.s) with
    | none => simp [hp] at h
    | some u' =>
      simp only [hp, Option.map_eq_some_iff] at h
      obtain ⟨⟨a', e', R', W'⟩, h1, h2⟩ := h
      simp only [Prod.mk.injEq] at h2
      obtain ⟨rfl, rfl, rfl, rfl⟩ := h2
      have hu := (hs u'.s).1 (by simp [Nat.testBit_or, bitU_soft])
      have hus : u'.s = u.s := by
        rcases mPut_cases hp with ⟨_, h⟩ | ⟨_, h, _⟩
        · rw [h]
        · exact h
      have hp2 : mPut c d u (env2.get u.s) = some u' := by rw [← hus, hu, hus]; exact hp
      have hs2 : Agree (R' ||| W') env2 env := fun s => ⟨fun k => (hs s).1 (by simp only [Nat.testBit_or, Bool.or_eq_true] at k ⊢; rcases k with k | k <;> simp [k]), fun k => (hs s).2 (by simp only [Nat.testBit_or, Bool.or_eq_true] at k ⊢; rcases k with k | k <;> simp [k])⟩
      obtain ⟨e2, h3, h4⟩ := ih h1 (env2 := env2.put u') (by rw [Env.length_put, Env.length_put, hl]) (hs2.put u' hl hu)
      refine ⟨e2, by simp [Rd.tr, hp2, h3, hu], fun i hi => h4 i ?_⟩
      rw [get_put_any, get_put_any, hl, hu]
      by_cases hiu : i = u'.s
      · subst hiu
        left
        split
        · rfl
        · exact hu
      · simp only [hiu, false_and, if_false]
        rcases hi with hi | hi
        · exact .inl hi
        · right
          simp only [Nat.testBit_or, bitU_soft, Bool.or_eq_true, decide_eq_true_eq] at hi
          exact hi.resolve_left (Ne.symm hiu)
  | chk b k ih =>
    intro env env2 a e R W h hl hs
    simp only [Rd.tr] at h ⊢
    cases hb : okB c b with
    | false => simp [hb] at h
    | true => simp only [hb, cond_true] at h ⊢; exact ih h hl hs
  | call t as k ih =>
    intro env env2 a e R W h hl hs
    simp only [Rd.tr, TE.run] at h ⊢
    split at h
    · cases h
    · rename_i s' hs'
      obtain ⟨q, hq, h⟩ := Option.bind_eq_some_iff.1 h
      obtain ⟨e2, h3, h4⟩ := ih _ h hl hs
      refine ⟨e2, ?_, h4⟩
      rw [hq]
      exact h3
  | fail => intro env env2 a e R W h; simp [Rd.tr] at h

def Local (f : Env → Option (Env × Nat × Nat)) : Prop := ∀ env e R W, f env = some (e, R, W) → e.length = env.length ∧ Stays W e env ∧
  ∀ env2 : Env, env2.length = env.length → Agree (R ||| W) env2 env → ∃ e2, f env2 = some (e2, R, W) ∧ ∀ s, env2.get s = env.get s ∨ W.testBit (2 * s + 1) = true → e2.get s = e.get s

theorem apart2_spec {R W R' W' : Nat} (h : apart2 R W R' W' = true) (s : Nat) : (W.testBit s = true → R'.testBit s = false ∧ W'.testBit s = false) ∧ (W'.testBit s = true → R.testBit s = false ∧ W.testBit s = false) := by
  simp only [apart2, Bool.and_eq_true, beq_iff_eq] at h
  obtain ⟨h1, h2⟩ := h
  have k1 := congrArg (Nat.testBit · s) h1
  have k2 := congrArg (Nat.testBit · s) h2
  simp only [Nat.testBit_and, Nat.testBit_or, Nat.zero_testBit, Bool.and_eq_false_iff, Bool.or_eq_false_iff] at k1 k2
  refine ⟨fun h => k1.resolve_left (by simp [h]), fun h => k2.resolve_left (by simp [h])⟩

/-- two that do not touch each other may be carried out in either order -/
theorem comm {f g : Env → Option (Env × Nat × Nat)} (hf : Local f) (hg : Local g) {env e1 e2 : Env} {R W R' W' : Nat} (h1 : f env = some (e1, R, W)) (h2 : g e1 = some (e2, R', W')) (ha : apart2 R W R' W' = true) :
    ∃ e1', g env = some (e1', R', W') ∧ f e1' = some (e2, R, W) := by
  obtain ⟨l1, k1, q1⟩ := hf _ _ _ _ h1
  obtain ⟨l2, k2, q2⟩ := hg _ _ _ _ h2
  have offW : ∀ b, (R' ||| W').testBit b = true → W.testBit b = false := fun b hb => by
    cases hw : W.testBit b with
    | false => rfl
    | true =>
      obtain ⟨h5, h6⟩ := (apart2_spec ha b).1 hw
      simp [Nat.testBit_or, h5, h6] at hb
  have offW' : ∀ b, (R ||| W).testBit b = true → W'.testBit b = false := fun b hb => by
    cases hw : W'.testBit b with
    | false => rfl
    | true =>
      obtain ⟨h5, h6⟩ := (apart2_spec ha b).2 hw
      simp [Nat.testBit_or, h5, h6] at hb
  obtain ⟨e1', h3, h4⟩ := q2 env l1.symm (fun s => ⟨fun hb => ((k1 s).1 (offW _ hb)).symm, fun hb => ((k1 s).2 (offW _ hb)).symm⟩)
  obtain ⟨l3, k3, _⟩ := hg _ _ _ _ h3
  obtain ⟨e2', h5, h6⟩ := q1 e1' l3 (fun s => ⟨fun hb => (k3 s).1 (offW' _ hb), fun hb => (k3 s).2 (offW' _ hb)⟩)
  obtain ⟨l5, k5, _⟩ := hf _ _ _ _ h5
  refine ⟨e1', h3, ?_⟩
  have : e2' = e2 := by
    apply Env.ext
    · rw [l5, l3, l2, l1]
    · intro s
      cases hw : W.testBit (2 * s + 1) with
      | true =>
        rw [h6 s (.inr hw), (k2 s).1 ((apart2_spec ha _).1 hw).2]
      | false =>
        rw [(k5 s).1 hw]
        cases hw' : W'.testBit (2 * s + 1) with
        | true => exact h4 s (.inr hw')
        | false => rw [(k3 s).1 hw', (k2 s).1 hw', (k1 s).1 hw]
  rw [← this]
  exact h5
end
end Go.VL

namespace Go.VL

/-- one operation of a region that runs in any order, with what it reads and writes -/
def stepT (C : Ctx) (ops : Array Oper) (o : Oper) (env : Env) : Option (Env × Nat × Nat) :=
  ((chainOf ops o).tr [] none env).bind fun x => match x.1, o.dst with
    | [], _ => ((opSem C [] o).tr [] o.dst x.2.1).map fun y => (y.2.1, x.2.2.1 ||| y.2.2.1, x.2.2.2 ||| y.2.2.2)
    | a :: c, some d => match (a :: c).all fun b => !(b.slot == d) with
      | true => ((opSem C (a :: c) o).tr (a :: c) o.dst x.2.1).bind fun y => match (y.2.1.get d).ep == (x.2.1.get d).ep + 1 && (y.2.1.get d).wc == (x.2.1.get d).wc + 1 && (y.2.1.get d).hs.isEmpty with
        | true => some (y.2.1, x.2.2.1 ||| y.2.2.1, (x.2.2.2 ||| bitB d) ||| y.2.2.2)
        | false => none
      | false => none
    | _, _ => none

section
variable {P : Program} {C : Ctx} {B : Base} {G : Nat → Prop} {F : Nat → List Res} {env : Env} {w : World} {a : Act}
variable {ρ : Type} {r : ρ} {ops : Array Oper}

theorem runOpT_step {o : Oper} {env : Env} {K : Env → Nat → Nat → Option ρ} (h : runOpT C ops o env K = some r) : ∃ e R W, stepT C ops o env = some (e, R, W) ∧ K e R W = some r := by
  unfold runOpT at h
  obtain ⟨c, e, R, W, h1, h⟩ := runT_tr _ h
  simp only [Nat.zero_or] at h
  unfold stepT
  rw [h1]
  simp only [Option.bind_some]
  split at h
  · obtain ⟨_, e', R', W', h2, h⟩ := runT_tr _ h
    exact ⟨e', R ||| R', W ||| W', by simp [h2], h⟩
  · rename_i b c d hd
    split at h
    case h_2 => cases h
    rename_i hall
    obtain ⟨_, e', R', W', h2, h⟩ := runT_tr _ h
    split at h
    case h_2 => cases h
    rename_i hck
    refine ⟨e', R ||| R', (W ||| bitB d) ||| W', ?_, h⟩
    simp only [hall, hd] at h2 ⊢
    rw [h2]
    simp only [Option.bind_some, hck]
  · cases h

theorem stepT_run {o : Oper} {env e : Env} {R W : Nat} (h : stepT C ops o env = some (e, R, W)) : runOp C ops o env some = some e ∧ True := by
  unfold stepT at h
  obtain ⟨⟨c, e1, R1, W1⟩, h1, h⟩ := Option.bind_eq_some_iff.1 h
  simp only at h
  unfold runOp
  refine ⟨?_, trivial⟩
  rw [run_tr _ h1]
  split at h
  · simp only [Option.map_eq_some_iff] at h
    obtain ⟨⟨_, e2, R2, W2⟩, h2, h3⟩ := h
    simp only [Prod.mk.injEq] at h3
    obtain ⟨rfl, _, _⟩ := h3
    rw [run_tr _ h2]
  · rename_i b c d hd
    split at h
    case h_2 => cases h
    rename_i hall
    obtain ⟨⟨_, e2, R2, W2⟩, h2, h3⟩ := Option.bind_eq_some_iff.1 h
    simp only at h3
    split at h3
    case h_2 => cases h3
    rename_i hck
    simp only [Option.some.injEq, Prod.mk.injEq] at h3
    obtain ⟨rfl, _, _⟩ := h3
    simp only [hd] at h2 ⊢
    simp only [hall]
    rw [run_tr _ h2]
    simp only [hck]
  · cases h

theorem Agree.mono {M N : Nat} {e1 e2 : Env} (h : Agree M e1 e2) (hs : ∀ b, N.testBit b = true → M.testBit b = true) : Agree N e1 e2 := fun s => ⟨fun k => (h s).1 (hs _ k), fun k => (h s).2 (hs _ k)⟩

/-- behind a step that both states took alike they agree still -/
theorem agree_step {M W1 : Nat} {env env2 e1 e1' : Env} (k1 : Stays W1 e1 env) (k3 : Stays W1 e1' env2) (h4 : ∀ s, env2.get s = env.get s ∨ W1.testBit (2 * s + 1) = true → e1'.get s = e1.get s) (h : Agree M env2 env) : Agree M e1' e1 := fun s => by
  refine ⟨fun hb => h4 s (.inl ((h s).1 hb)), fun hb => ?_⟩
  cases hw : W1.testBit (2 * s + 1) with
  | true => rw [h4 s (.inr hw)]
  | false => rw [(k3 s).1 hw, (k1 s).1 hw]; exact (h s).2 hb

theorem stepT_local (o : Oper) : Local (stepT C ops o) := by
  intro env e R W h
  unfold stepT at h
  obtain ⟨⟨c, e1, R1, W1⟩, h1, h⟩ := Option.bind_eq_some_iff.1 h
  simp only at h
  obtain ⟨l1, k1⟩ := tr_keep _ h1
  split at h
  · rename_i hd
    simp only [Option.map_eq_some_iff] at h
    obtain ⟨⟨_, e2, R2, W2⟩, h2, h3⟩ := h
    simp only [Prod.mk.injEq] at h3
    obtain ⟨rfl, rfl, rfl⟩ := h3
    obtain ⟨l2, k2⟩ := tr_keep _ h2
    refine ⟨l2.trans l1, k1.trans k2, fun env2 hl hs => ?_⟩
    obtain ⟨e1', h3, h4⟩ := tr_local _ h1 hl (hs.mono fun b hb => by simp only [Nat.testBit_or, Bool.or_eq_true] at hb ⊢; rcases hb with hb | hb <;> simp [hb])
    obtain ⟨l3, k3⟩ := tr_keep _ h3
    obtain ⟨e2', h5, h6⟩ := tr_local _ h2 (env2 := e1') (by rw [l3, l1, hl]) (agree_step k1 k3 h4 (hs.mono fun b hb => by simp only [Nat.testBit_or, Bool.or_eq_true] at hb ⊢; rcases hb with hb | hb <;> simp [hb]))
    refine ⟨e2', ?_, fun s hw => ?_⟩
    · unfold stepT
      rw [h3]
      simp only [Option.bind_some]
      rw [h5]
      rfl
    · refine h6 s ?_
      rcases hw with hw | hw
      · exact .inl (h4 s (.inl hw))
      · simp only [Nat.testBit_or, Bool.or_eq_true] at hw
        rcases hw with hw | hw
        · exact .inl (h4 s (.inr hw))
        · exact .inr hw
  · rename_i b c d hd
    split at h
    case h_2 => cases h
    rename_i hall
    obtain ⟨⟨_, e2, R2, W2⟩, h2, h3⟩ := Option.bind_eq_some_iff.1 h
    simp only at h3
    split at h3
    case h_2 => cases h3
    rename_i hck
    simp only [Option.some.injEq, Prod.mk.injEq] at h3
    obtain ⟨rfl, rfl, rfl⟩ := h3
    obtain ⟨l2, k2⟩ := tr_keep _ h2
    refine ⟨l2.trans l1, fun s => ?_, fun env2 hl hs => ?_⟩
    · have := (k1.trans k2) s
      simp only [Nat.testBit_or, Bool.or_eq_false_iff] at this ⊢
      exact ⟨fun h => this.1 ⟨h.1.1, h.2⟩, fun h => this.2 ⟨h.1.1, h.2⟩⟩
    · obtain ⟨e1', h3, h4⟩ := tr_local _ h1 hl (hs.mono fun b hb => by simp only [Nat.testBit_or, Bool.or_eq_true] at hb ⊢; rcases hb with hb | hb <;> simp [hb])
      obtain ⟨l3, k3⟩ := tr_keep _ h3
      obtain ⟨e2', h5, h6⟩ := tr_local _ h2 (env2 := e1') (by rw [l3, l1, hl]) (agree_step k1 k3 h4 (hs.mono fun b hb => by simp only [Nat.testBit_or, Bool.or_eq_true] at hb ⊢; rcases hb with hb | hb <;> simp [hb]))
      have hdd : env2.get d = env.get d := (hs d).1 (by simp [Nat.testBit_or, bitB_soft])
      have hd1 := h4 d (.inl hdd)
      have hd2 := h6 d (.inl hd1)
      refine ⟨e2', ?_, fun s hw => ?_⟩
      · unfold stepT
        rw [h3]
        simp only [Option.bind_some, hd]
        simp only [hd] at h5 hall
        simp only [hall]
        rw [h5]
        simp only [Option.bind_some, hd2, hd1, hck]
      · refine h6 s ?_
        rcases hw with hw | hw
        · exact .inl (h4 s (.inl hw))
        · simp only [Nat.testBit_or, Bool.or_eq_true, bitB_soft, decide_eq_true_eq] at hw
          rcases hw with (hw | hw) | hw
          · exact .inl (h4 s (.inr hw))
          · subst hw; exact .inl hd1
          · exact .inr hw
  · cases h

inductive Path (C : Ctx) (ops : Array Oper) (f : Nat → Nat × Nat) : List Nat → Env → Env → Prop
  | nil (e : Env) : Path C ops f [] e e
  | cons {i : Nat} {l : List Nat} {o : Oper} {e e1 e2 : Env} : ops[i]? = some o → stepT C ops o e = some (e1, (f i).1, (f i).2) → Path C ops f l e1 e2 → Path C ops f (i :: l) e e2

theorem Path.front {f : Nat → Nat × Nat} {i : Nat} {post : List Nat} : ∀ {pre : List Nat} {e e2 : Env}, Path C ops f (pre ++ i :: post) e e2 → (∀ j ∈ pre, apart2 (f j).1 (f j).2 (f i).1 (f i).2 = true) →
    Path C ops f (i :: (pre ++ post)) e e2
  | [], _, _, h, _ => h
  | j :: pre, e, e2, h, ha => by
    cases h with
    | cons ho hs hp =>
      have := Path.front hp (fun j hj => ha j (by simp [hj]))
      cases this with
      | cons ho' hs' hp' =>
        obtain ⟨e1', h1, h2⟩ := comm (stepT_local _) (stepT_local _) hs hs' (ha j (by simp))
        exact .cons ho' h1 (.cons ho h2 hp')

end
end Go.VL

namespace Go.VL
section
variable {P : Program} {C : Ctx} {B : Base} {G : Nat → Prop} {F : Nat → List Res} {env : Env} {w : World} {a : Act}
variable {ρ : Type} {r : ρ} {ops : Array Oper}

/-- j comes before i in every order -/
inductive Bhd (ops : Array Oper) (j : Nat) : Nat → Prop
  | base {i : Nat} {o : Oper} {e : Edge} : ops[i]? = some o → e ∈ o.after → Region.binds .any e = true → e.on = j → Bhd ops j i
  | step {i : Nat} {o : Oper} {e : Edge} : ops[i]? = some o → e ∈ o.after → Region.binds .any e = true → Bhd ops j e.on → Bhd ops j i

theorem bhd_out {L : List Nat} (hcl : ∀ k o, ops[k]? = some o → k ∉ L → ∀ e ∈ o.after, Region.binds .any e = true → e.on ∉ L) {j : Nat} : ∀ {i : Nat}, Bhd ops j i →
    (∀ o, ops[i]? = some o → ∀ e ∈ o.after, Region.binds .any e = true → e.on ∉ L) → j ∉ L := by
  intro i h
  induction h with
  | base ho he hb h => intro hr; exact h ▸ hr _ ho _ he hb
  | step ho he hb h ih =>
    intro hr
    have hn := hr _ ho _ he hb
    exact ih fun o' ho' e' he' hb' => hcl _ o' ho' hn e' he' hb'

theorem Path.len {f : Nat → Nat × Nat} : ∀ {l : List Nat} {e e2 : Env}, Path C ops f l e e2 → e2.length = e.length
  | _, _, _, .nil _ => rfl
  | _, _, _, .cons _ hs hp => hp.len.trans (stepT_local _ _ _ _ _ hs).1

theorem any_sound {gh : List Value} {nt : Nat} (hT : TysOk P C) (hE : EqsOk P C) (hTab : TabOk P C) (hfit : ops.all (opFits nt) = true) {Q : Exit → Act → World → Prop} (hl : ∀ o ∈ ops, ∀ dd, o.dst = some dd → ∀ l ∈ B.lents, l.1 ≠ dd)
    {f : Nat → Nat × Nat} {envF : Env} (hedge : ∀ i o, ops[i]? = some o → ∀ e ∈ o.after, Region.binds .any e = true → e.on < i)
    (hdep : ∀ i o, ops[i]? = some o → ∀ j, j < i → Bhd ops j i ∨ apart2 (f j).1 (f j).2 (f i).1 (f i).2 = true)
    (hQ : ∀ a' w' G' F', RelX B G' F' [] envF (ats a' gh) w' → a'.tmps.size = nt → a'.defers = [] → Q .normal a' w') : ∀ (n : Nat) (L : List Nat) (listed : Array Bool) {G : Nat → Prop} {F : Nat → List Res} {env : Env} {w : World} {a : Act},
    L.length = n → RelX B G F [] env (ats a gh) w → a.tmps.size = nt → a.defers = [] → Path C ops f L env envF → listed.size = ops.size → (∀ j, j ∈ L ↔ j < ops.size ∧ listed.getD j true = false) → L.Pairwise (· < ·) →
    (∀ k o, ops[k]? = some o → k ∉ L → ∀ e ∈ o.after, Region.binds .any e = true → e.on ∉ L) → wpAny P .any ops Q n listed a w := by
  intro n
  induction n with
  | zero =>
    intro L listed G F env w a hn R hs hd hp hsz hL hpw hcl
    have hL0 : L = [] := List.eq_nil_of_length_eq_zero hn
    subst hL0
    cases hp with
    | nil =>
    refine ⟨?_, hQ a w G F R hs hd⟩
    rw [List.eq_nil_iff_forall_not_mem]
    intro i hi
    rw [mem_ready] at hi
    obtain ⟨h0, o, ho, _⟩ := hi
    have := (hL i).2 ⟨(Array.getElem?_eq_some_iff.1 ho).1, h0⟩
    simp at this
  | succ n ih =>
    intro L listed G F env w a hn R hs hd hp hsz hL hpw hcl
    have hout : ∀ k, k < ops.size → k ∉ L → listed.getD k false = true := fun k hk hkL => by
      have h1 : ¬ (listed.getD k true = false) := fun h => hkL ((hL k).2 ⟨hk, h⟩)
      have hk' : k < listed.size := by omega
      simp only [Array.getD, hk', dif_pos] at h1 ⊢
      simpa using h1
    refine ⟨fun h => ?_, fun i hi => ?_⟩
    · -- the first of those left is ready
      exfalso
      match L, hn, hp, hL, hpw, hcl, hout with
      | i :: L, hn, hp, hL, hpw, hcl, hout =>
        have hi := (hL i).1 (by simp)
        have : i ∈ Region.ready .any ops listed := by
          rw [mem_ready]
          refine ⟨hi.2, ops[i], by simp [hi.1], fun e he hb => ?_⟩
          have hlt := hedge i ops[i] (by simp [hi.1]) e he hb
          refine hout e.on (by omega) fun hm => ?_
          rcases List.mem_cons.1 hm with h | h
          · omega
          · have := (List.pairwise_cons.1 hpw).1 e.on h
            omega
        rw [h] at this
        simp at this
    · rw [mem_ready] at hi
      obtain ⟨h0, o, ho, hafter⟩ := hi
      have hisz := (Array.getElem?_eq_some_iff.1 ho).1
      have hiL := (hL i).2 ⟨hisz, h0⟩
      have hrdy : ∀ o', ops[i]? = some o' → ∀ e ∈ o'.after, Region.binds .any e = true → e.on ∉ L := fun o' ho' e he hb hm => by
        rw [ho] at ho'
        cases ho'
        have h1 := hafter e he hb
        have h2 := (hL e.on).1 hm
        have hk' : e.on < listed.size := by omega
        simp only [Array.getD, hk', dif_pos] at h1 h2
        rw [h1] at h2
        simp at h2
      obtain ⟨pre, post, rfl⟩ := List.append_of_mem hiL
      have hpw2 := List.pairwise_append.1 hpw
      have hp' := hp.front fun j hj => by
        have hlt := hpw2.2.2 j hj i (by simp)
        rcases hdep i o ho j hlt with h | h
        · exact absurd (show j ∈ pre ++ i :: post by simp [hj]) (bhd_out hcl h hrdy)
        · exact h
      obtain ⟨e1, hst, hp''⟩ : ∃ e1, stepT C ops o env = some (e1, (f i).1, (f i).2) ∧ Path C ops f (pre ++ post) e1 envF := by
        cases hp' with
        | cons ho' hst hp'' =>
          rw [ho] at ho'
          cases ho'
          exact ⟨_, hst, hp''⟩
      have hstep := (stepT_run hst).1
      have hnip : i ∉ pre ++ post := by
        have hnd : (pre ++ i :: post).Nodup := hpw.imp (fun h => Nat.ne_of_lt h)
        have := (List.nodup_append.1 hnd)
        have h2 := List.nodup_cons.1 this.2.1
        intro hm
        rcases List.mem_append.1 hm with hm | hm
        · exact this.2.2 i hm i (by simp) rfl
        · exact h2.1 hm
      have next : ∀ v w' G' F' env', (some env' : Option Env) = some e1 → RelX B G' F' [] env' (ats (a.put o.dst v) gh) w' → env'.length = env.length → wpAny P .any ops Q n (listed.setIfInBounds i true) (a.put o.dst v) w' := by
        intro v w' G' F' env' he R' _
        cases he
        refine ih (pre ++ post) (listed.setIfInBounds i true) (by simp at hn ⊢; omega) R' (by rw [put_size]; exact hs) (by rw [put_defers]; exact hd) hp'' (by simpa using hsz) (fun j => ?_) ?_ ?_
        · by_cases hji : j = i
          · subst hji
            refine ⟨fun h => absurd h hnip, fun h => ?_⟩
            simp [hsz, hisz] at h
          · rw [getD_set_ne true (Ne.symm hji), ← hL j]
            simp [hji]
        · exact hpw.sublist (List.Sublist.append (List.Sublist.refl _) (List.sublist_cons_self _ _))
        · intro k o' ho' hk e he hb hm
          have hm' : e.on ∈ pre ++ i :: post := by
            rcases List.mem_append.1 hm with h | h <;> simp [h]
          by_cases hki : k = i
          · subst hki
            exact hrdy o' ho' e he hb hm'
          · refine hcl k o' ho' (fun hkm => hk ?_) e he hb hm'
            simpa [hki] using hkm
      have := runOp_sound hT hE hTab (a := a) (next := wpAny P .any ops Q n (listed.setIfInBounds i true)) (Q := Q) (gh := gh) (hs ▸ hfit) (hs ▸ Array.all_eq_true_iff_forall_mem.1 hfit o (Array.mem_of_getElem? ho)) R (hl o (Array.mem_of_getElem? ho)) hstep next
      unfold wpOp
      simp only [ho]
      split
      · rename_i hw
        simp only [hw, if_true] at this
        exact .inl this
      · rename_i hw
        simp only [hw] at this
        exact this

theorem behind_bhd {acc : List (Nat × Nat × Nat)} {o : Oper} {j : Nat} (h : (behind acc o).testBit j = true) : ∃ e ∈ o.after, Region.binds .any e = true ∧ (e.on = j ∨ ((acc.getD e.on (0, 0, 0)).1).testBit j = true) := by
  have key : ∀ (l : List Edge) (m : Nat), (l.foldl (fun m e => match Region.binds .any e with | true => m ||| 2 ^ e.on ||| (acc.getD e.on (0, 0, 0)).1 | false => m) m).testBit j = true →
      m.testBit j = true ∨ ∃ e ∈ l, Region.binds .any e = true ∧ (e.on = j ∨ ((acc.getD e.on (0, 0, 0)).1).testBit j = true) := by
    intro l
    induction l with
    | nil => intro m h; exact .inl h
    | cons e l ih =>
      intro m h
      rw [List.foldl_cons] at h
      rcases ih _ h with h | ⟨e', he', h⟩
      · split at h
        · rename_i hb
          simp only [Nat.testBit_or, bit_pow, Bool.or_eq_true, decide_eq_true_eq] at h
          rcases h with (h | h) | h
          · exact .inl h
          · exact .inr ⟨e, by simp, hb, .inl h⟩
          · exact .inr ⟨e, by simp, hb, .inr h⟩
        · exact .inl h
      · exact .inr ⟨e', by simp [he'], h⟩
  rcases key _ 0 h with h | ⟨e, he, h⟩
  · simp at h
  · exact ⟨e, by simpa using he, h⟩

theorem indepAll_get {M R W : Nat} : ∀ (acc : List (Nat × Nat × Nat)) (k : Nat), indepAll M R W acc k = true → ∀ j x, acc[j]? = some x → M.testBit (k + j) = true ∨ apart2 R W x.2.1 x.2.2 = true
  | [], _, _, j, x, h => by simp at h
  | y :: acc, k, h, j, x, hx => by
    simp only [indepAll, Bool.and_eq_true, Bool.or_eq_true] at h
    cases j with
    | zero =>
      simp only [List.getElem?_cons_zero, Option.some.injEq] at hx
      subst hx
      exact h.1
    | succ j =>
      have := indepAll_get acc (k + 1) h.2 j x (by simpa using hx)
      rwa [show k + 1 + j = k + (j + 1) by omega] at this

theorem apart2_symm {R W R' W' : Nat} (h : apart2 R W R' W' = true) : apart2 R' W' R W = true := by
  simp only [apart2, Bool.and_eq_true] at h ⊢
  exact ⟨h.2, h.1⟩

/-- what the traced run shows -/
theorem runOpsT_path {K : Env → Option ρ} : ∀ (os : List Oper) (acc : List (Nat × Nat × Nat)) {env : Env}, os = ops.toList.drop acc.length → runOpsT C ops os acc env K = some r →
    (∀ i o, ops[i]? = some o → i < acc.length → ∀ e ∈ o.after, Region.binds .any e = true → e.on < i) →
    (∀ i o, ops[i]? = some o → i < acc.length → ∀ j, ((acc.getD i (0, 0, 0)).1).testBit j = true → Bhd ops j i) →
    (∀ i o, ops[i]? = some o → i < acc.length → ∀ j, j < i → Bhd ops j i ∨ apart2 (acc.getD j (0, 0, 0)).2.1 (acc.getD j (0, 0, 0)).2.2 (acc.getD i (0, 0, 0)).2.1 (acc.getD i (0, 0, 0)).2.2 = true) → acc.length ≤ ops.size →
    ∃ accF envF, (∃ ys, accF = acc ++ ys) ∧ Path C ops (fun i => (accF.getD i (0, 0, 0)).2) (List.range' acc.length os.length) env envF ∧ K envF = some r ∧
      (∀ i o, ops[i]? = some o → ∀ e ∈ o.after, Region.binds .any e = true → e.on < i) ∧
      (∀ i o, ops[i]? = some o → ∀ j, j < i → Bhd ops j i ∨ apart2 (accF.getD j (0, 0, 0)).2.1 (accF.getD j (0, 0, 0)).2.2 (accF.getD i (0, 0, 0)).2.1 (accF.getD i (0, 0, 0)).2.2 = true)
  | [], acc, env, hos, h, h1, h2, h3, h4 => by
    have hlen : acc.length = ops.size := by
      have := congrArg List.length hos
      simp at this
      omega
    refine ⟨acc, env, ⟨[], by simp⟩, .nil env, h, fun i o ho => h1 i o ho ?_, fun i o ho => h3 i o ho ?_⟩ <;>
      (have := (Array.getElem?_eq_some_iff.1 ho).1; omega)
  | o :: os, acc, env, hos, h, h1, h2, h3, h4 => by
    have ho : ops[acc.length]? = some o := by
      have := congrArg (·[0]?) hos
      simp at this
      exact this.symm
    have hos' : os = ops.toList.drop (acc.length + 1) := by
      have := congrArg List.tail hos
      simpa using this
    simp only [runOpsT] at h
    split at h
    case h_2 => cases h
    rename_i hed
    obtain ⟨e1, R, W, hs, h⟩ := runOpT_step h
    split at h
    case h_2 => cases h
    rename_i hind
    have hedge : ∀ e ∈ o.after, Region.binds .any e = true → e.on < acc.length := fun e he hb => by
      have := List.all_eq_true.1 hed e (by simpa using he)
      simpa [hb] using this
    have hnew : ∀ j, (behind acc o).testBit j = true → Bhd ops j acc.length := fun j hj => by
      obtain ⟨e, he, hb, h⟩ := behind_bhd hj
      rcases h with h | h
      · exact .base ho he hb h
      · have hlt := hedge e he hb
        have hsz : e.on < ops.size := by omega
        exact .step ho he hb (h2 e.on ops[e.on] (by simp [hsz]) hlt j h)
    have g0 : ∀ i, i < acc.length → (acc ++ [(behind acc o, R, W)]).getD i (0, 0, 0) = acc.getD i (0, 0, 0) := fun i hi => by
      simp [List.getD, List.getElem?_append_left hi]
    have g1 : (acc ++ [(behind acc o, R, W)]).getD acc.length (0, 0, 0) = (behind acc o, R, W) := by simp [List.getD]
    have hsplit : ∀ i o', ops[i]? = some o' → i < (acc ++ [(behind acc o, R, W)]).length → i < acc.length ∨ (i = acc.length ∧ o' = o) := fun i o' ho' hi => by
      simp at hi
      by_cases h : i < acc.length
      · exact .inl h
      · have : i = acc.length := by omega
        subst this
        rw [ho] at ho'
        cases ho'
        exact .inr ⟨rfl, rfl⟩
    obtain ⟨accF, envF, ⟨ys, hys⟩, k2, k3, k4, k5⟩ := runOpsT_path os (acc ++ [(behind acc o, R, W)]) (env := e1) (by simpa using hos') h
      (fun i o' ho' hi => by
        rcases hsplit i o' ho' hi with h | ⟨rfl, rfl⟩
        · exact h1 i o' ho' h
        · exact hedge)
      (fun i o' ho' hi j hj => by
        rcases hsplit i o' ho' hi with h | ⟨rfl, rfl⟩
        · rw [g0 i h] at hj; exact h2 i o' ho' h j hj
        · rw [g1] at hj; exact hnew j hj)
      (fun i o' ho' hi j hj => by
        rcases hsplit i o' ho' hi with h | ⟨rfl, rfl⟩
        · rw [g0 i h, g0 j (by omega)]; exact h3 i o' ho' h j hj
        · rw [g1, g0 j hj]
          have hx : acc[j]? = some acc[j] := by simp [hj]
          rcases indepAll_get acc 0 hind j _ hx with h | h
          · exact .inl (hnew j (by simpa using h))
          · right
            simp only [List.getD, hx, Option.getD_some]
            exact apart2_symm h)
      (by have := (Array.getElem?_eq_some_iff.1 ho).1; simp; omega)
    refine ⟨accF, envF, ⟨(behind acc o, R, W) :: ys, by rw [hys]; simp⟩, ?_, k3, k4, k5⟩
    have hf : (accF.getD acc.length (0, 0, 0)).2 = (R, W) := by
      rw [hys]
      simp [List.getD]
    have k2' : Path C ops (fun i => (accF.getD i (0, 0, 0)).2) (List.range' (acc.length + 1) os.length) e1 envF := by simpa using k2
    simp only [List.length_cons, List.range'_succ]
    exact .cons ho (by rw [hf]; exact hs) k2'

/-- a region that runs in any order -/
theorem region_any {gh : List Value} {nt : Nat} (hm : P.follows .mixedOrders = true) (hT : TysOk P C) (hE : EqsOk P C) (hTab : TabOk P C) (hfit : ops.all (opFits nt) = true) {Q : Exit → Act → World → Prop} (hl : ∀ o ∈ ops, ∀ dd, o.dst = some dd → ∀ l ∈ B.lents, l.1 ≠ dd) {K : Env → Option ρ} {id : Nat}
    (R : RelX B G F [] env (ats a gh) w) (hs : a.tmps.size = nt) (hd : a.defers = []) (h : runOpsT C ops ops.toList [] env K = some r)
    (hQ : ∀ a' w' G' F' env', K env' = some r → RelX B G' F' [] env' (ats a' gh) w' → a'.tmps.size = nt → env'.length = env.length → a'.defers = [] → Q .normal a' w') : (Code.region id ops true).wp P Q a w := by
  obtain ⟨accF, envF, _, hp, hK, hedge, hdep⟩ := runOpsT_path ops.toList [] rfl h (fun i o _ hi => by simp at hi) (fun i o _ hi => by simp at hi) (fun i o _ hi => by simp at hi) (Nat.zero_le _)
  have R' : RelX B G F [] env (ats a gh) { w with drawn := w.drawn + 1 } :=
    R.world (X := fun _ _ => False) ⟨⟨Nat.le_refl _, fun _ c _ _ h => ⟨c, h, rfl⟩, fun _ _ _ => rfl⟩, rfl, rfl, rfl, fun _ _ _ => rfl⟩ (fun _ _ h => h.elim) (fun _ _ h => h.elim) (fun _ _ _ h => h.elim)
  refine wp_region_any hm (any_sound hT hE hTab hfit hl hedge hdep (fun a' w' G' F' R' hs' hd' => hQ a' w' G' F' envF hK R' hs' hp.len hd') ops.size (List.range' 0 ops.toList.length) _ (by simp) R' hs hd hp (by simp) (fun j => ?_) (List.pairwise_lt_range' _) ?_)
  · rw [← List.range_eq_range', List.mem_range, Array.length_toList]
    refine ⟨fun h => ⟨h, by simp [h]⟩, fun h => h.1⟩
  · intro k o ho hk
    exfalso
    apply hk
    have := (Array.getElem?_eq_some_iff.1 ho).1
    simp [List.mem_range']
    omega

end
end Go.VL

namespace Go.VL
section
variable {P : Program} {C : Ctx} {B : Base} {G : Nat → Prop} {F : Nat → List Res} {env : Env} {ts : List Value} {w : World}

/-- what stands in a slot of a state that a shape was forgotten to -/
theorem encOn_get (env : Env) (i : Nat) : ∀ (l : Shape) (x : l.S) (e0 : Env), l.decL env = some x →
    ((l.encOn x e0).get i = e0.get i ∨ ∃ h y, (i, h) ∈ l ∧ h.dec env (env.get i).e = some y ∧ i < e0.length ∧ (l.encOn x e0).get i = ⟨0, 0, [], h.enc y⟩) ∧ (l.encOn x e0).length = e0.length
  | [], _, _, _ => ⟨.inl rfl, rfl⟩
  | (s, h) :: l, x, e0, hd => by
    simp only [Shape.decL, Option.bind_eq_some_iff, Option.map_eq_some_iff] at hd
    obtain ⟨y, hy, r, hr, rfl⟩ := hd
    obtain ⟨h1, h2⟩ := encOn_get env i l r (e0.set s ⟨0, 0, [], h.enc y⟩) hr
    refine ⟨?_, by simp only [Shape.encOn]; rw [h2]; simp⟩
    simp only [Shape.encOn]
    rcases h1 with h1 | ⟨h', y', k1, k2, k3, k4⟩
    · rw [h1]
      by_cases hi : s = i
      · subst hi
        by_cases hl : s < e0.length
        · exact .inr ⟨h, y, by simp, hy, hl, by simp [Env.get, List.getD, hl]⟩
        · exact .inl (by simp [List.set_eq_of_length_le (Nat.le_of_not_lt hl)])
      · exact .inl (by simp [Env.get, List.getD, List.getElem?_set_ne hi])
    · exact .inr ⟨h', y', by simp [k1], k2, by simpa using k3, k4⟩

theorem refs_get (env : Env) : ∀ (l : Shape), l.refs env = true → (∀ s r p, (s, Sh.ad r p) ∈ l → ∀ r' ep q, (env.get s).e = .addr r' ep q → refOk env r' q = true) ∧
    (∀ s r p, (s, Sh.pr r p) ∈ l → ∀ r' ep wc q, (env.get s).e = .pref r' ep wc q → refOk env r' q = true)
  | [], _ => ⟨fun _ _ _ h => by simp at h, fun _ _ _ h => by simp at h⟩
  | (s, h) :: l, hr => by
    have hl : Shape.refs env l = true := by
      cases h <;> simp only [Shape.refs, Bool.and_eq_true] at hr <;> first | exact hr | exact hr.2
    obtain ⟨h1, h2⟩ := refs_get env l hl
    refine ⟨fun s' r p hm => ?_, fun s' r p hm => ?_⟩
    · rcases List.mem_cons.1 hm with he | hm
      · simp only [Prod.mk.injEq] at he
        obtain ⟨rfl, rfl⟩ := he
        intro r' ep q he
        simp only [Shape.refs, he, Bool.and_eq_true] at hr
        exact hr.1
      · exact h1 s' r p hm
    · rcases List.mem_cons.1 hm with he | hm
      · simp only [Prod.mk.injEq] at he
        obtain ⟨rfl, rfl⟩ := he
        intro r' ep wc q he
        simp only [Shape.refs, he, Bool.and_eq_true] at hr
        exact hr.1
      · exact h2 s' r p hm

theorem dec_path : ∀ (p : List SP) (q : List Step) (x : idxs p), decPath p q = some x → encPath p x = q
  | [], [], _, _ => rfl
  | .idx :: p, .idx i :: q, x, h => by
    simp only [decPath, Option.map_eq_some_iff] at h
    obtain ⟨r, hr, rfl⟩ := h
    simp [encPath, dec_path p q r hr]
  | .fst :: p, .fst :: q, x, h => by simp only [decPath] at h; simp [encPath, dec_path p q x h]
  | .snd :: p, .snd :: q, x, h => by simp only [decPath] at h; simp [encPath, dec_path p q x h]
  | .der :: p, .der :: q, x, h => by simp only [decPath] at h; simp [encPath, dec_path p q x h]
  | [], _ :: _, _, h => by simp [decPath] at h
  | _ :: _, [], _, h => by simp [decPath] at h
  | .idx :: _, .fst :: _, _, h | .idx :: _, .snd :: _, _, h | .idx :: _, .der :: _, _, h => by simp [decPath] at h
  | .fst :: _, .idx _ :: _, _, h | .fst :: _, .snd :: _, _, h | .fst :: _, .der :: _, _, h => by simp [decPath] at h
  | .snd :: _, .idx _ :: _, _, h | .snd :: _, .fst :: _, _, h | .snd :: _, .der :: _, _, h => by simp [decPath] at h
  | .der :: _, .idx _ :: _, _, h | .der :: _, .fst :: _, _, h | .der :: _, .snd :: _, _, h => by simp [decPath] at h

theorem getP_ty : ∀ (p : List Step) (t : Ty) (m m' : Md) (x x' : t.den) (u u' : TV), getP p t m x = some u → getP p t m' x' = some u' → u.t = u'.t := by
  intro p
  induction p with
  | nil =>
    intro t m m' x x' u u' h h'
    simp only [getP, Option.some.injEq] at h h'
    rw [← h, ← h']
  | cons s p ih =>
    intro t m m' x x' u u' h h'
    cases s with
    | fst => cases t <;> simp only [getP] at h h' <;> first | exact ih _ _ _ _ _ _ _ h h' | cases h
    | snd => cases t <;> simp only [getP] at h h' <;> first | exact ih _ _ _ _ _ _ _ h h' | cases h
    | idx i =>
      cases t with
      | arr n a => simp only [getP] at h h'; exact ih _ _ _ _ _ _ _ h h'
      | list a => cases m <;> simp only [getP] at h <;> first | cases h | (cases m' <;> simp only [getP] at h' <;> first | cases h' | exact ih _ _ _ _ _ _ _ h h')
      | _ => simp [getP] at h
    | der =>
      cases t with
      | ptr a => cases m <;> simp only [getP] at h <;> first | cases h | (cases m' <;> simp only [getP] at h' <;> first | cases h' | exact ih _ _ _ _ _ _ _ h h')
      | _ => simp [getP] at h

/-- what a slot says of its value, when part of what it owned is shared -/
theorem dec_val {i : Nat} {h : Sh} {y : h.den} (R : RelX B G F [] env ts w) (hi : i < env.length) (hd : h.dec env (env.get i).e = some y) {t : Ty} {m : Md} {x : t.den} (he : h.enc y = .val t m x) :
    ∃ m' x', (env.get i).e = .val t m' x' ∧ ∃ f z : List Res, f.Sublist (F i) ∧ z.Sublist (F i) ∧ Apart f z ∧ vrel (fun b => G b ∨ blks z b) w t m x (ts.getD i undef) f := by
  have hs := R.slot i hi
  have nd := R.nd i
  obtain ⟨e, he0⟩ : ∃ e, (env.get i).e = e := ⟨_, rfl⟩
  rw [he0] at hs hd
  simp only [he0]
  cases h with
  | va t1 m1 =>
    cases e <;> simp only [Sh.dec] at hd <;> try (cases hd; done)
    rename_i t' m' x'
    split at hd
    case h_2 => cases hd
    rename_i hco
    obtain ⟨rfl, rfl⟩ := castV_eq hd
    simp only [Sh.enc, Entry.val.injEq] at he
    obtain ⟨rfl, rfl, he⟩ := he
    cases he
    obtain ⟨f, z, h1, h2, h3, h4⟩ := rep_coe _ _ _ _ _ _ hco nd hs.1
    exact ⟨m', x', rfl, f, z, h1, h2, h3, h4, hs.2⟩
  | bo t1 m1 =>
    cases e <;> simp only [Sh.dec] at hd <;> try (cases hd; done)
    rename_i t' m' x'
    cases t' <;> try (simp at hd; done)
    rename_i t'
    cases m' <;> try (simp at hd; done)
    rename_i m'
    cases x' with
    | none => simp at hd
    | some x' =>
      simp only at hd
      split at hd
      case h_2 => cases hd
      rename_i hco
      obtain ⟨rfl, rfl⟩ := castV_eq hd
      simp only [Sh.enc, Entry.val.injEq] at he
      obtain ⟨rfl, rfl, he⟩ := he
      cases he
      have hr := hs.1
      simp only [unpack, Ty.agg, if_false, Bool.false_eq_true] at hr
      obtain ⟨y, b, o, c, f, hy, hc, hf, hsp, hcc, hrep⟩ := hr
      cases hy
      have ndf := (List.pairwise_cons.1 (hf ▸ nd : ND _))
      obtain ⟨f2, z, h1, h2, h3, h4⟩ := rep_coe _ _ _ _ _ _ hco ndf.2 hrep
      refine ⟨.o m', some x', rfl, ⟨b, o, o + t'.sz⟩ :: f2, z, ?_, ?_, ?_, ?_, hs.2⟩
      · rw [hf]; exact h1.cons_cons _
      · rw [hf]; exact h2.cons _
      · intro r hr q hq
        rcases List.mem_cons.1 hr with rfl | hr
        · exact ndf.1 q (h2.subset hq)
        · exact h3 r hr q hq
      · simp only [unpack, Ty.agg, if_false, Bool.false_eq_true]
        exact ⟨x', b, o, c, f2, rfl, hc, rfl, hsp, hcc, h4⟩
  | ad r p => simp [Sh.enc] at he
  | pr r p => simp [Sh.enc] at he
  | rf t => simp [Sh.enc] at he
  | fu n =>
    cases e <;> simp only [Sh.dec] at hd <;> try (cases hd; done)
    rename_i t' m' x'
    cases t' <;> try (simp at hd; done)
    cases x' with
    | none => simp at hd
    | some n' =>
      simp only at hd
      split at hd
      case h_2 => cases hd
      rename_i hn
      simp only [beq_iff_eq] at hn
      subst hn
      simp only [Sh.enc, Entry.val.injEq] at he
      obtain ⟨rfl, rfl, he⟩ := he
      cases he
      refine ⟨m', some n, rfl, [], [], List.nil_sublist _, List.nil_sublist _, fun r hr => by simp at hr, ⟨hs.1.1, rfl⟩, hs.2⟩

/-- a state is forgotten to a shape -/
theorem forget {n : Nat} {sh : Shape} {s : sh.S} (R : RelX B G F [] env ts w) (hn : env.length = n) (hd : sh.dec n env = some s) : ∃ G' F', RelX B G' F' [] (sh.enc n s) ts w := by
  simp only [Shape.dec, Option.bind_eq_some_iff] at hd
  obtain ⟨s', hd, hr⟩ := hd
  split at hr
  case h_2 => cases hr
  rename_i hrefs
  cases hr
  have hget := fun i => (encOn_get env i sh s (List.replicate n ⟨0, 0, [], .undef⟩) hd).1
  have hlen : (sh.enc n s).length = n := by
    have := (encOn_get env 0 sh s (List.replicate n ⟨0, 0, [], .undef⟩) hd).2
    simpa [Shape.enc] using this
  have hget' : ∀ i, (sh.enc n s).get i = ⟨0, 0, [], .undef⟩ ∨ ∃ h y, (i, h) ∈ sh ∧ h.dec env (env.get i).e = some y ∧ i < n ∧ (sh.enc n s).get i = ⟨0, 0, [], h.enc y⟩ := fun i => by
    rcases hget i with h | ⟨h, y, h1, h2, h3, h4⟩
    · left
      have : Env.get (List.replicate n ⟨0, 0, [], .undef⟩) i = ⟨0, 0, [], .undef⟩ := by
        simp only [Env.get, List.getD]
        by_cases hi : i < n
        · simp [hi]
        · simp [List.getElem?_eq_none (by simpa using Nat.le_of_not_lt hi : (List.replicate n (⟨0, 0, [], .undef⟩ : Sl)).length ≤ i)]
      exact h.trans this
    · exact .inr ⟨h, y, h1, h2, by simpa using h3, h4⟩
  obtain ⟨hr1, hr2⟩ := refs_get (sh.enc n s) sh hrefs
  -- what each slot keeps, and what it shares
  have each : ∀ i, ∃ fz : List Res × List Res, fz.1.Sublist (F i) ∧ fz.2.Sublist (F i) ∧ Apart fz.1 fz.2 ∧
      (∀ t m x, ((sh.enc n s).get i).e = .val t m x → (∃ m' x', (env.get i).e = .val t m' x') ∧ vrel (fun b => G b ∨ blks fz.2 b) w t m x (ts.getD i undef) fz.1) ∧
      ((∀ t m x, ((sh.enc n s).get i).e ≠ .val t m x) → fz.1 = []) := fun i => by
    by_cases hv : ∃ t m x, ((sh.enc n s).get i).e = .val t m x
    · obtain ⟨t, m, x, hv⟩ := hv
      rcases hget' i with h | ⟨h, y, h1, h2, h3, h4⟩
      · rw [h] at hv; cases hv
      · rw [h4] at hv
        obtain ⟨m', x', k1, f, z, k2, k3, k4, k5⟩ := dec_val R (by omega) h2 hv
        refine ⟨(f, z), k2, k3, k4, fun t2 m2 x2 hv2 => ?_, fun hno => absurd (h4 ▸ hv) (hno t m x)⟩
        rw [h4] at hv2
        have := hv.symm.trans hv2
        cases this
        exact ⟨⟨m', x', k1⟩, k5⟩
    · refine ⟨([], []), List.nil_sublist _, List.nil_sublist _, fun r hr => by simp at hr, fun t m x h => absurd ⟨t, m, x, h⟩ hv, fun _ => rfl⟩
  obtain ⟨FZ, hFZ⟩ := Classical.axiomOfChoice each
  have hz : ∀ i, ∀ q ∈ (FZ i).2, q ∈ F i := fun i q hq => (hFZ i).2.1.subset hq
  have hf : ∀ i, ∀ q ∈ (FZ i).1, q ∈ F i := fun i q hq => (hFZ i).1.subset hq
  let G' : Nat → Prop := fun b => G b ∨ ∃ i, blks (FZ i).2 b
  have hval : ∀ i t m x, ((sh.enc n s).get i).e = .val t m x → (∃ m' x', (env.get i).e = .val t m' x') ∧ vrel G' w t m x (ts.getD i undef) (FZ i).1 := fun i t m x h => by
    obtain ⟨h1, h2⟩ := (hFZ i).2.2.2.1 t m x h
    exact ⟨h1, vrel_G (fun b hb => hb.imp id fun h => ⟨i, h⟩) h2⟩
  refine ⟨G', fun i => (FZ i).1, ?_⟩
  refine { len := by rw [hlen, ← hn]; exact R.len, slot := fun i hi => ?_, held := fun k h hk => (by simp at hk), out := fun i hi => ?_, nd := fun i => (R.nd i).sub (hFZ i).1,
           ap := fun i j hij a ha b hb => R.ap i j hij a (hf i a ha) b (hf j b hb), ok := fun i q hq => ⟨?_, (R.ok i q (hf i q hq)).2⟩, g0 := fun b hb => .inl (R.g0 b hb), gl := ?_, turn := R.turn,
           chain := fun i g e hi => ?_, lent := fun l hl t m x he => ?_ }
  · rcases hget' i with h | ⟨h, y, h1, h2, h3, h4⟩
    · rw [h]; trivial
    · have hs := R.slot i (by omega)
      have hno : (∀ t m x, ((sh.enc n s).get i).e ≠ .val t m x) → (FZ i).1 = [] := (hFZ i).2.2.2.2
      cases h with
      | va t m => rw [h4]; exact (hval i t m y (by rw [h4]; rfl)).2
      | bo t m => rw [h4]; exact (hval i _ _ _ (by rw [h4]; rfl)).2
      | fu k => rw [h4]; exact (hval i _ _ _ (by rw [h4]; rfl)).2
      | rf t =>
        rw [hno (fun t m x => by rw [h4]; simp [Sh.enc])]
        obtain ⟨e, he0⟩ : ∃ e, (env.get i).e = e := ⟨_, rfl⟩
        rw [he0] at hs h2
        cases e <;> simp only [Sh.dec] at h2 <;> try (cases h2; done)
        obtain ⟨e1, rfl⟩ := castV_eq h2
        subst e1
        obtain ⟨_, ad, cs, k2, k3, k4, k5⟩ := hs
        rw [h4]
        exact ⟨rfl, ad, cs, k2, .inl k3, k4, rep_frame (X := fun _ _ => False) (Same.refl _ w) (fun _ h => .inl h) (fun _ _ h => h.elim) _ _ _ _ _ (fun _ h => by simp at h) k5⟩
      | ad r p =>
        rw [hno (fun t m x => by rw [h4]; simp [Sh.enc])]
        have hro := hr1 i r p h1
        rw [h4] at hro ⊢
        simp only [Sh.enc] at hro ⊢
        have hro := hro _ _ _ rfl
        obtain ⟨e, he0⟩ : ∃ e, (env.get i).e = e := ⟨_, rfl⟩
        rw [he0] at hs h2
        cases e <;> simp only [Sh.dec] at h2 <;> try (cases h2; done)
        rename_i r' ep q
        split at h2
        case h_2 => cases h2
        rename_i hck
        simp only [Bool.and_eq_true, beq_iff_eq] at hck
        obtain ⟨rfl, hep⟩ := hck
        have hpq := dec_path _ _ _ h2
        obtain ⟨_, _, h3'⟩ := hs
        obtain ⟨t, m, x, u, ad, k1, k2, k3, k4⟩ := h3' hep
        refine ⟨rfl, Nat.zero_le _, fun _ => ?_⟩
        unfold refOk at hro
        split at hro
        case h_2 => cases hro
        rename_i t2 m2 x2 he2
        obtain ⟨⟨m', x', k5⟩, _⟩ := hval r t2 m2 x2 he2
        rw [k1] at k5
        cases k5
        obtain ⟨u', hu'⟩ := Option.isSome_iff_exists.1 hro
        exact ⟨_, m2, x2, u', ad, he2, hu', by rw [hpq]; exact k3, k4⟩
      | pr r p =>
        rw [hno (fun t m x => by rw [h4]; simp [Sh.enc])]
        have hro := hr2 i r p h1
        rw [h4] at hro ⊢
        simp only [Sh.enc] at hro ⊢
        have hro := hro _ _ _ _ rfl
        obtain ⟨e, he0⟩ : ∃ e, (env.get i).e = e := ⟨_, rfl⟩
        rw [he0] at hs h2
        cases e <;> simp only [Sh.dec] at h2 <;> try (cases h2; done)
        rename_i r' ep wc q
        split at h2
        case h_2 => cases h2
        rename_i hck
        simp only [Bool.and_eq_true, beq_iff_eq] at hck
        obtain ⟨⟨rfl, hep⟩, hwc⟩ := hck
        have hpq := dec_path _ _ _ h2
        obtain ⟨_, _, _, h3'⟩ := hs
        obtain ⟨t, m, x, u, k1, k2, k3⟩ := h3' hep
        refine ⟨rfl, Nat.zero_le _, Nat.zero_le _, fun _ => ?_⟩
        unfold refOk at hro
        split at hro
        case h_2 => cases hro
        rename_i t2 m2 x2 he2
        obtain ⟨⟨m', x', k5⟩, _⟩ := hval r t2 m2 x2 he2
        rw [k1] at k5
        cases k5
        obtain ⟨u', hu'⟩ := Option.isSome_iff_exists.1 hro
        have hty := getP_ty _ _ _ _ _ _ _ _ k2 (hpq ▸ hu')
        refine ⟨_, m2, x2, u', he2, hu', fun _ => ?_⟩
        obtain ⟨c, c1, c2, c3⟩ := k3 (by simp [aliasOk, hwc])
        refine ⟨c, by rw [← hty]; exact c1, by rw [← hty]; exact c2, ?_⟩
        rw [hpq]
        exact c3
  · have h0 : (sh.enc n s).get i = ⟨0, 0, [], .undef⟩ := by
      rcases hget' i with h | ⟨h, y, h1, h2, h3, h4⟩
      · exact h
      · simp [hlen] at hi; omega
    exact (hFZ i).2.2.2.2 (fun t m x => by rw [h0]; simp)
  · rintro (h | ⟨j, z, hz', e⟩)
    · exact (R.ok i q (hf i q hq)).1 h
    · by_cases hij : i = j
      · subst hij
        exact (hFZ i).2.2.1 q hq z hz' e.symm
      · exact R.ap i j hij q (hf i q hq) z (hz j z hz') e.symm
  · rintro b (hb | ⟨j, z, hz', rfl⟩)
    · exact R.gl b hb
    · obtain ⟨_, h2, h3⟩ := R.ok j z (hz j z hz')
      exact ⟨h2, .inr (h3.imp id fun ⟨q, hq, e, _⟩ => ⟨q, hq, e⟩)⟩
  · rcases hget' i with h | ⟨h, y, h1, h2, h3, h4⟩
    · rw [h] at hi; cases hi
    · rw [h4] at hi
      cases h <;> cases hi
  · obtain ⟨⟨m', x', k⟩, _⟩ := hval _ _ _ _ he
    exact R.lent l hl t m' x' k

end
end Go.VL

namespace Go.VL

def noDst (l : List Nat) : Code → Bool
  | .region _ ops _ => ops.all fun o => match o.dst with | some d => !l.contains d | none => true
  | .seq x y | .cond _ x y => noDst l x && noDst l y
  | .block _ x | .loop x => noDst l x
  | _ => true

def exOf : Ex → Exit
  | .normal => .normal
  | .exit id => .exit id
  | .ret => .ret

theorem noDst_ops {l : List Nat} {ops : Array Oper} {id : Nat} {b : Bool} (h : noDst l (.region id ops b) = true) : ∀ o ∈ ops, ∀ dd, o.dst = some dd → dd ∉ l := by
  intro o ho dd hd
  simp only [noDst, Array.all_eq_true_iff_forall_mem] at h
  have := h o ho
  rw [hd] at this
  simpa using this

section
variable {P : Program} {C : Ctx} {B : Base} {w : World} {a : Act}

theorem outs_dec {n : Nat} {e : Env} {ex : Ex} : ∀ (os : List (Ex × Shape)) (o : Outs os), Outs.dec n e ex os = some o → ∃ (sh : Shape) (s : sh.S), sh.dec n e = some s ∧ ∀ {ρ : Type} (K : Ex → Env → Option ρ), elimO n K os o = K ex (sh.enc n s)
  | [], o, _ => o.elim
  | [x], o, h => by
    simp only [Outs.dec] at h
    split at h
    · rename_i he
      exact ⟨x.2, o, h, fun K => by simp only [elimO, he]⟩
    · cases h
  | x :: y :: l, o, h => by
    simp only [Outs.dec] at h
    split at h
    · rename_i he
      obtain ⟨s, hs, rfl⟩ := Option.map_eq_some_iff.1 h
      exact ⟨x.2, s, hs, fun K => by simp only [elimO, Sum.elim_inl, he]⟩
    · obtain ⟨o', ho, rfl⟩ := Option.map_eq_some_iff.1 h
      obtain ⟨sh, s, h1, h2⟩ := outs_dec (y :: l) o' ho
      exact ⟨sh, s, h1, fun K => by simp only [elimO, Sum.elim_inr]; exact h2 K⟩

theorem encOn_len : ∀ (l : Shape) (x : l.S) (e : Env), (l.encOn x e).length = e.length
  | [], _, _ => rfl
  | (s, h) :: l, x, e => by simp only [Shape.encOn]; rw [encOn_len l]; simp

theorem enc_len (n : Nat) (l : Shape) (x : l.S) : (l.enc n x).length = n := by
  unfold Shape.enc
  rw [encOn_len]
  simp

theorem exists_least {p : Nat → Prop} (h : ∃ j, p j) : ∃ j, p j ∧ ∀ i, i < j → ¬ p i := by
  obtain ⟨j, hj⟩ := h
  induction j using Nat.strongRecOn with
  | _ j ih =>
    by_cases h : ∃ i, i < j ∧ p i
    · obtain ⟨i, hi, hpi⟩ := h
      exact ih i hi hpi
    · exact ⟨j, hj, fun i hi hpi => h ⟨i, hi, hpi⟩⟩

theorem ev_sound {gh : List Value} {nt : Nat} (hm : P.follows .mixedOrders = true) (hT : TysOk P C) (hE : EqsOk P C) (hTab : TabOk P C) {k n : Nat} : ∀ (ac : AC) (code : Code) {ρ : Type} {K : Ex → Env → Option ρ} {r : ρ} {Q : Exit → Act → World → Prop}
    {G : Nat → Prop} {F : Nat → List Res} {env : Env} {w : World} {a : Act},
    AC.ok C k n ac code → ev C k n ac code env K = some r → noDst (B.lents.map (·.1)) code = true → codeFits nt code = true → RelX B G F [] env (ats a gh) w → a.tmps.size = nt → a.defers = [] → env.length = n →
    (∀ ex env' a' w' G' F', K ex env' = some r → RelX B G' F' [] env' (ats a' gh) w' → a'.tmps.size = nt → a'.defers = [] → env'.length = n → Q (exOf ex) a' w') → code.wp P Q a w := by
  intro ac
  induction ac with
  | rg =>
    intro code ρ K r Q G F env w a _ h hnd hft R hs hd hn hQ
    cases code with
    | region id ops b =>
      have hl : ∀ o ∈ ops, ∀ dd, o.dst = some dd → ∀ l ∈ B.lents, l.1 ≠ dd := fun o ho dd hdd l hl he =>
        noDst_ops hnd o ho dd hdd (List.mem_map.2 ⟨l, hl, he⟩)
      cases b with
      | false =>
        simp only [ev] at h
        refine wp_region (runOps_sound hT hE hTab hft hl (List.range ops.size) R hs hd (by rw [range_ops]; exact h) (fun a' w' G' F' env' h1 h2 hs' h3 h4 => hQ .normal env' a' w' G' F' h1 h2 hs' h4 (h3.trans hn)))
      | true =>
        simp only [ev] at h
        exact region_any hm hT hE hTab hft hl R hs hd h (fun a' w' G' F' env' h1 h2 hs' h3 h4 => hQ .normal env' a' w' G' F' h1 h2 hs' h4 (h3.trans hn))
    | _ => simp [ev] at h
  | nx =>
    intro code ρ K r Q G F env w a _ h hnd hft R hs hd hn hQ
    cases code with
    | skip => simp only [ev] at h; exact wp_skip (hQ .normal env a w G F h R hs hd hn)
    | ret => simp only [ev] at h; exact wp_ret (hQ .ret env a w G F h R hs hd hn)
    | exit id => simp only [ev] at h; exact wp_exit (hQ (.exit id) env a w G F h R hs hd hn)
    | _ => simp [ev] at h
  | sq x y ihx ihy =>
    intro code ρ K r Q G F env w a hok h hnd hft R hs hd hn hQ
    cases code with
    | seq cx cy =>
      simp only [ev] at h
      simp only [noDst, Bool.and_eq_true] at hnd
      simp only [codeFits, Bool.and_eq_true] at hft
      refine wp_seq (ihx cx hok.1 h hnd.1 hft.1 R hs hd hn (fun ex env' a' w' G' F' h1 h2 hs' h3 h4 => ?_))
      cases ex with
      | normal => exact ihy cy hok.2 h1 hnd.2 hft.2 h2 hs' h3 h4 hQ
      | exit id => exact hQ (.exit id) env' a' w' G' F' h1 h2 hs' h3 h4
      | ret => exact hQ .ret env' a' w' G' F' h1 h2 hs' h3 h4
    | _ => simp [ev] at h
  | cd x y ihx ihy =>
    intro code ρ K r Q G F env w a hok h hnd hft R hs hd hn hQ
    cases code with
    | cond o cx cy =>
      simp only [ev] at h
      simp only [noDst, Bool.and_eq_true] at hnd
      simp only [codeFits, Bool.and_eq_true] at hft
      obtain ⟨hfo, hft⟩ := hft
      have eval_eq : a.eval o = evalO (ats a gh) o := by
        rw [Go.VL.eval_eq, evalO_ext (by simpa [hs] using hfo)]
      obtain ⟨sl, h, ho⟩ := opnd_run R Cur.nil rfl h
      have nq : ∀ {neg e : Bool}, sl.e = .nq neg e → ∃ b, a.eval o = .bool (neg != b) ∧ (b = true → e = true) := by
        intro neg e he
        rw [eval_eq, ← ho.1]
        rcases ho.2 with hu | ho
        · rw [he] at hu; cases hu
        · cases hs : slotOf o with
          | some s =>
            rw [hs] at ho
            have := ho.2.2.2.2
            rw [he] at this
            exact this.2
          | none =>
            rw [hs] at ho
            obtain ⟨t', m', x', he', _⟩ := ho
            rw [he] at he'
            cases he'
      split at h
      · rename_i e he
        obtain ⟨b, hb, hbe⟩ := nq he
        obtain ⟨h1, h2⟩ := agree_eq h
        refine wp_cond_split hb (fun ht => ?_) (fun hf => ?_)
        · have hbt : b = true := by simpa using ht
          rw [hbe hbt] at h2
          exact ihx cx hok.1 h2 hnd.1 hft.1 R hs hd hn hQ
        · exact ihy cy hok.2 h1 hnd.2 hft.2 R hs hd hn hQ
      · rename_i e he
        obtain ⟨b, hb, hbe⟩ := nq he
        obtain ⟨h1, h2⟩ := agree_eq h
        refine wp_cond_split hb (fun ht => ?_) (fun hf => ?_)
        · exact ihx cx hok.1 h1 hnd.1 hft.1 R hs hd hn hQ
        · have hbt : b = true := by simpa using hf
          rw [hbe hbt] at h2
          exact ihy cy hok.2 h2 hnd.2 hft.2 R hs hd hn hQ
      obtain ⟨t, y, hk, hv⟩ := plainV_run R ho h
      split at hk
      case h_2 => cases hk
      rename_i m v heq
      obtain ⟨rfl, rfl, hx⟩ : t = .bool ∧ .s = m ∧ HEq y v := by simpa using heq
      have hx := eq_of_heq hx
      subst hx
      have hb : a.eval o = .bool y := by
        rw [eval_eq]
        have h1 := hv.1
        simp only [unpack, Ty.agg, if_false, Bool.false_eq_true, rep, List.cons.injEq, and_true] at h1
        exact h1
      refine wp_cond_split hb (fun ht => ?_) (fun hf => ?_)
      · subst ht
        exact ihx cx hok.1 hk hnd.1 hft.1 R hs hd hn hQ
      · subst hf
        exact ihy cy hok.2 hk hnd.2 hft.2 R hs hd hn hQ
    | _ => simp [ev] at h
  | bk x ih =>
    intro code ρ K r Q G F env w a hok h hnd hft R hs hd hn hQ
    cases code with
    | block id cx =>
      simp only [ev] at h
      refine wp_block (ih cx hok h hnd hft R hs hd hn (fun ex env' a' w' G' F' h1 h2 hs' h3 h4 => ?_))
      cases ex with
      | normal => exact hQ .normal env' a' w' G' F' h1 h2 hs' h3 h4
      | ret => exact hQ .ret env' a' w' G' F' h1 h2 hs' h3 h4
      | exit id' =>
        simp only at h1
        show if id' = id then _ else _
        split
        · rename_i he
          rw [if_pos he] at h1
          exact hQ .normal env' a' w' G' F' h1 h2 hs' h3 h4
        · rename_i he
          rw [if_neg he] at h1
          exact hQ (.exit id') env' a' w' G' F' h1 h2 hs' h3 h4
    | _ => simp [ev] at h
  | lp sh os f x ih =>
    intro code ρ K r Q G F env w a hok h hnd hft R hs hd hn hQ
    cases code with
    | loop cx =>
      simp only [ev] at h
      obtain ⟨s0, hs0, h⟩ := Option.bind_eq_some_iff.1 h
      obtain ⟨o, ho, h⟩ := Option.bind_eq_some_iff.1 h
      obtain ⟨G0, F0, R0⟩ := forget R hn hs0
      let Φ : Nat → Act → World → Prop := fun j a w => ∃ s G F, iterO f j s = some o ∧ RelX B G F [] (sh.enc n s) (ats a gh) w ∧ a.tmps.size = nt ∧ a.defers = []
      classical
      refine wp_loop (fun a w => ∃ j, Φ j a w) (fun a w => if h : ∃ j, Φ j a w then Classical.choose (exists_least h) else 0) ⟨k, s0, G0, F0, ho, R0, hs, hd⟩ ?_
      intro a w hI
      have hc := Classical.choose_spec (exists_least hI)
      simp only [dif_pos hI]
      generalize Classical.choose (exists_least hI) = j at hc
      obtain ⟨⟨s, G, F, hj, R, hs, hd⟩, _⟩ := hc
      cases j with
      | zero => simp [iterO] at hj
      | succ j =>
        simp only [iterO] at hj
        obtain ⟨v, hv, hj⟩ := Option.bind_eq_some_iff.1 hj
        have hlen : (sh.enc n s).length = n := enc_len n sh s
        refine ih cx hok.2 ((hok.1 s).trans hv) hnd hft R hs hd hlen (fun ex env' a' w' G' F' h1 h2 hs' h3 h4 => ?_)
        have leave : ∀ ex, (Outs.dec n env' ex os).map (Sum.inr (α := sh.S)) = some v → Q (exOf ex) a' w' := fun ex hdec => by
          obtain ⟨o', ho', rfl⟩ := Option.map_eq_some_iff.1 hdec
          simp only [Sum.elim_inr, Option.some.injEq] at hj
          subst hj
          obtain ⟨sh', s', k1, k2⟩ := outs_dec os o' ho'
          obtain ⟨G2, F2, R2⟩ := forget h2 h4 k1
          rw [k2] at h
          exact hQ ex _ a' w' G2 F2 h R2 hs' h3 (enc_len n _ _)
        cases ex with
        | normal =>
          simp only [finL] at h1
          obtain ⟨s', hsd, rfl⟩ := Option.map_eq_some_iff.1 h1
          simp only [Sum.elim_inl] at hj
          obtain ⟨G2, F2, R2⟩ := forget h2 h4 hsd
          have hI' : ∃ j, Φ j a' w' := ⟨j, s', G2, F2, hj, R2, hs', h3⟩
          refine ⟨hI', ?_⟩
          simp only [dif_pos hI']
          have hc' := Classical.choose_spec (exists_least hI')
          generalize Classical.choose (exists_least hI') = j' at hc'
          rcases Nat.lt_or_ge j j' with hlt | hge
          · exact absurd ⟨s', G2, F2, hj, R2, hs', h3⟩ (hc'.2 j hlt)
          · omega
        | exit id => exact leave (.exit id) h1
        | ret => exact leave .ret h1
    | _ => simp [ev] at h
  | sm sh os f x ih =>
    intro code ρ K r Q G F env w a hok h hnd hft R hs hd hn hQ
    have h : ((sh.dec n env).bind fun s => (f s).bind fun o => elimO n K os o) = some r := by
      cases code <;> exact h
    have hok : (∀ s, ev C k n x code (sh.enc n s) (fun ex e => Outs.dec n e ex os) = f s) ∧ AC.ok C k n x code := by
      cases code <;> exact hok
    obtain ⟨s0, hs0, h⟩ := Option.bind_eq_some_iff.1 h
    obtain ⟨o, ho, h⟩ := Option.bind_eq_some_iff.1 h
    obtain ⟨G0, F0, R0⟩ := forget R hn hs0
    refine ih code hok.2 ((hok.1 s0).trans ho) hnd hft R0 hs hd (enc_len n sh s0) (fun ex env' a' w' G' F' h1 h2 hs' h3 h4 => ?_)
    obtain ⟨sh', s', k1, k2⟩ := outs_dec os o h1
    obtain ⟨G2, F2, R2⟩ := forget h2 h4 k1
    rw [k2] at h
    exact hQ ex _ a' w' G2 F2 h R2 hs' h3 (enc_len n _ _)

end
end Go.VL

namespace Go.VL

def resM (tmps : Array Value) : ResultVar → Sem Value
  | .tmp t => pure (tmps.getD t undef)
  | .cell a t => do loadVar t (← asAddr (tmps.getD a undef))

theorem results_run {P : Program} {fn : Func} {tmps : Array Value} {w : World} {vs : List Value} (h : (fn.results.toList.mapM (resM tmps)).run P w = .ok vs w) : (results fn tmps).run P w = .ok (resV vs) w := by
  have e : results fn tmps = (fn.results.mapM (resM tmps)) >>= fun vs => pure (if h : vs.size = 1 then vs[0] else .tuple vs) := by
    unfold results
    have : (fun x : ResultVar => match x with | .tmp t => (pure (tmps.getD t undef) : Sem Value) | .cell a t => do loadVar t (← asAddr (tmps.getD a undef))) = resM tmps := by
      funext x
      cases x <;> rfl
    rw [← this]
    rfl
  rw [e, Array.mapM_eq_mapM_toList, map_eq_pure_bind, Sem.run_bind, Sem.run_bind, h]
  simp only [Result.andThen_ok, Sem.run_pure]
  match vs with
  | [] => rfl
  | [v] => rfl
  | _ :: _ :: _ => rfl

section
variable {P : Program} {C : Ctx} {B : Base} {G : Nat → Prop} {F : Nat → List Res} {H : List (TV × Value)} {env : Env} {w : World} {tmps : Array Value}
variable {ρ : Type} {r : ρ}

theorem tmps_getD (tmps : Array Value) (s : Nat) : tmps.getD s undef = tmps.toList.getD s undef := by
  simp [Array.getD, List.getD]
  by_cases h : s < tmps.size <;> simp [h]

def rvFits (n : Nat) : ResultVar → Bool
  | .tmp s => Nat.blt s n
  | .cell s _ => Nat.blt s n

theorem tmps_gh {gh : List Value} {s : Nat} (h : Nat.blt s tmps.size = true) : tmps.getD s undef = (tmps.toList ++ gh).getD s undef := by
  have hlt : s < tmps.toList.length := by simpa [Nat.blt_eq] using h
  rw [tmps_getD, List.getD, List.getD, List.getElem?_append_left hlt]

theorem resOne_run {gh : List Value} (hT : TysOk P C) {x : ResultVar} {K : TV → Env → Option ρ} (hx : rvFits tmps.size x = true) (R : RelX B G F H env (tmps.toList ++ gh) w) (h : (resOne C x).run [] none env K = some r) :
    ∃ u v G' F' env', K u env' = some r ∧ (∀ b, G b → G' b) ∧ RelX B G' F' (H ++ [(u, v)]) env' (tmps.toList ++ gh) w ∧ env'.length = env.length ∧ (resM tmps x).run P w = .ok v w := by
  cases x with
  | tmp s =>
    simp only [resOne, Rd.run_bind'] at h
    obtain ⟨sl, h, ho⟩ := opnd_run R Cur.nil rfl h
    obtain ⟨u, GF1, F1, env1, h, hGF1, R1, hl1, _⟩ := take_run rfl R ho h
    exact ⟨u, _, GF1, F1, env1, h, hGF1, R1, hl1, by simp only [resM, Sem.run_pure, tmps_gh (gh := gh) hx]; rfl⟩
  | cell s T =>
    simp only [resOne, Rd.run_bind', Rd.run_slot] at h
    split at h
    case h_2 => simp at h
    rename_i t m y he
    rw [Rd.run_bind'] at h
    obtain ⟨hgd, h⟩ := Rd.run_guard h
    simp only [Bool.and_eq_true, decide_eq_true_eq] at hgd
    obtain ⟨hTt, hno⟩ := hgd
    rw [Rd.run_bind'] at h
    obtain ⟨_, h⟩ := Rd.run_moveU rfl h
    simp only [Rd.run_pure] at h
    obtain ⟨hlt, hroot⟩ := R.rootVal he
    have hr := hroot.1
    simp only [unpack, Ty.agg, if_false, Bool.false_eq_true] at hr
    obtain ⟨y', b, o, c, f, hy, hc, hF, hsp, hcc, hrep⟩ := hr
    cases hy
    simp only [List.cons.injEq, and_true] at hc
    have nd := R.nd s
    rw [hF] at nd
    have nd' := List.pairwise_cons.1 nd
    have R1 := R.setSlot (d := s) (e := .undef) (c := (tmps.toList ++ gh).getD s undef) (f := []) hlt trivial List.Pairwise.nil (fun _ _ r hr => by simp at hr) (fun r hr => by simp at hr) (fun _ _ h => by cases h) (fun _ _ _ _ _ _ h => by cases h)
    rw [set_getD_self] at R1
    have R2 := R1.hold (v := ⟨t, m, y⟩) (c := pack t c) (f := f) (vrel_pack hrep) nd'.2 (fun j => ?_) (fun z hz => R.ok s z (by rw [hF]; simp [hz]))
    · refine ⟨⟨t, m, y⟩, pack t c, _, _, _, h, fun _ h => h, R2, Env.length_put _ _, ?_⟩
      have hv : tmps.getD s undef = .pointer (some ⟨b, o, none⟩) := by rw [tmps_gh (gh := gh) hx]; exact hc
      simp only [resM, hv, asAddr, Sem.run_bind, Sem.run_pure, Result.andThen_ok]
      exact run_loadVar (tyF (hT _ _ hTt)) (rep_len _ _ _ _ _ hrep) hcc
    · unfold upd
      split
      · intro _ _ q hq; simp at hq
      · rename_i hj
        exact fun z hz q hq => R.ap s j (Ne.symm hj) z (by rw [hF]; simp [hz]) q hq

theorem resR_run {gh : List Value} (hT : TysOk P C) : ∀ (rs : List ResultVar) (l : List (Ty × Md)) {G : Nat → Prop} {F : Nat → List Res} {H : List (TV × Value)} {env : Env} {K : List TV → Env → Option ρ}, rs.all (rvFits tmps.size) = true → RelX B G F H env (tmps.toList ++ gh) w → (resR C rs l).run [] none env K = some r →
    ∃ us vs G' F' env', K us env' = some r ∧ (∀ b, G b → G' b) ∧ RelX B G' F' (H ++ us.zip vs) env' (tmps.toList ++ gh) w ∧ env'.length = env.length ∧ us.map (·.m) = l.map (·.2) ∧ us.length = vs.length ∧ (rs.mapM (resM tmps)).run P w = .ok vs w
  | [], [], G, F, H, env, K, _, R, h => by
    simp only [resR, Rd.run_pure] at h
    exact ⟨[], [], G, F, env, h, fun _ h => h, by simpa using R, rfl, rfl, rfl, rfl⟩
  | x :: rs, (t, m) :: l, G, F, H, env, K, hx, R, h => by
    simp only [List.all_cons, Bool.and_eq_true] at hx
    simp only [resR, Rd.run_bind'] at h
    obtain ⟨u, v, G1, F1, env1, h, hG1, R1, hl1, hm1⟩ := resOne_run hT hx.1 R h
    obtain ⟨hco, h⟩ := coe_run rfl h
    obtain ⟨G2, F2, hG2, R2⟩ := R1.coe hco
    obtain ⟨us, vs, G', F', env', k1, k2, k3, k4, k5, k6, k7⟩ := resR_run hT rs l hx.2 R2 h
    simp only [Rd.run_pure] at k1
    refine ⟨_, v :: vs, G', F', env', k1, fun b hb => k2 b (hG2 b (hG1 b hb)), by simpa using k3, k4.trans hl1, by simp [k5], by simp [k6], ?_⟩
    rw [List.mapM_cons, Sem.run_bind, hm1]
    simp only [Result.andThen_ok, Sem.run_bind, k7, Sem.run_pure]
  | [], _ :: _, _, _, _, _, _, _, _, h => by simp [resR] at h
  | _ :: _, [], _, _, _, _, _, _, _, h => by simp [resR] at h

/-- the slots of the pointers, from i on -/
def ioIdx : List PK → Nat → List Nat
  | [], _ => []
  | p :: ps, i => match p.io with | true => i :: ioIdx ps (i + 1) | false => ioIdx ps (i + 1)

theorem iosR_run : ∀ (ps : List PK) (i : Nat) {G : Nat → Prop} {F : Nat → List Res} {H : List (TV × Value)} {env : Env} {K : List TV → Env → Option ρ} {ts : List Value}, RelX B G F H env ts w → (iosR ps i).run [] none env K = some r →
    ∃ ws G' F' env', K ws env' = some r ∧ (∀ b, G b → G' b) ∧ RelX B G' F' (H ++ (ws.map ptrTV).zip ((ioIdx ps i).map fun j => ts.getD j undef)) env' ts w ∧ ws.length = (ioIdx ps i).length ∧ ws.map (·.m) = (ps.filter (·.io)).map (·.m') ∧ ∀ j ∈ ioIdx ps i, ∀ l ∈ B.lents, l.1 = j → ts.getD j undef = .pointer (some ⟨l.2.1, l.2.2, none⟩)
  | [], i, G, F, H, env, K, ts, R, h => by
    simp only [iosR, Rd.run_pure] at h
    exact ⟨[], G, F, env, h, fun _ h => h, by simpa using R, rfl, rfl, fun j hj => by simp [ioIdx] at hj⟩
  | p :: ps, i, G, F, H, env, K, ts, R, h => by
    cases hio : p.io with
    | false =>
      simp only [iosR, hio] at h
      obtain ⟨ws, G', F', env', k1, k2, k3, k4, k5, k6⟩ := iosR_run ps (i + 1) R h
      exact ⟨ws, G', F', env', k1, k2, by simpa [ioIdx, hio] using k3, by simpa [ioIdx, hio] using k4, by simpa [hio] using k5, by simpa [ioIdx, hio] using k6⟩
    | true =>
      simp only [iosR, hio, Rd.run_bind', Rd.run_slot] at h
      split at h
      case h_2 => simp at h
      rename_i t m x he
      rw [Rd.run_bind'] at h
      obtain ⟨_, h⟩ := Rd.run_moveU rfl h
      rw [Rd.run_bind'] at h
      obtain ⟨hco, h⟩ := coe_run rfl h
      rw [Rd.run_bind'] at h
      obtain ⟨hlt, hroot⟩ := R.rootVal he
      have R1 := R.moveOut hlt hroot
      obtain ⟨G2, F2, hG2, R2⟩ := R1.coe hco
      obtain ⟨ws, G', F', env', k1, k2, k3, k4, k5, k6⟩ := iosR_run ps (i + 1) R2 h
      refine ⟨_, G', F', env', k1, fun b hb => k2 b (hG2 b hb), ?_, by simp [ioIdx, hio, k4], by simp [hio, k5], fun j hj l hl hlj => ?_⟩
      · simpa [ioIdx, hio, ptrTV] using k3
      · simp only [ioIdx, hio, List.mem_cons] at hj
        rcases hj with hj | hj
        · rw [hj] at hlj ⊢
          rw [← hlj]
          exact R.lent l hl t (.o m) (some x) (by rw [hlj]; exact he)
        · exact k6 j hj l hl hlj

theorem enc_dec : ∀ (l : List (Ty × Md)) (vs : List TV) (x : denAll (l.map (·.1))), decAll (l.map (·.1)) vs = some x → vs.map (·.m) = l.map (·.2) → encAll l x = vs
  | [], [], _, _, _ => rfl
  | (t, m) :: l, v :: vs, x, h, hm => by
    obtain ⟨y, hy, h⟩ := Option.bind_eq_some_iff.1 h
    obtain ⟨r', hr, rfl⟩ := Option.map_eq_some_iff.1 h
    simp only [List.map_cons, List.cons.injEq] at hm
    obtain ⟨tv, mv, xv⟩ := v
    obtain ⟨e, he⟩ := castV_eq hy
    have e' : tv = t := e
    subst e'
    have he' : xv = y := he
    subst he'
    simp only at hm
    obtain ⟨rfl, hm⟩ := hm
    simp only [encAll, enc_dec l vs r' hr hm]
  | [], _ :: _, _, h, _ => by simp [decAll] at h
  | _ :: _, [], _, h, _ => by simp [decAll] at h

end
end Go.VL

namespace Go.VL
section
variable {P : Program} {C : Ctx} {B : Base} {G : Nat → Prop} {F : Nat → List Res} {w : World}

/-- the start: nothing is in use -/
theorem start_rel {ts : List Value} {n : Nat} (hn : ts.length = n) (w : World) (G : Nat → Prop) (R : List Res) (L : List (Nat × Nat × Nat)) (hG : ∀ b, G b → b < w.heap.size) :
    RelX ⟨w, G, R, L⟩ G (fun _ => []) [] (List.replicate n ⟨0, 0, [], .undef⟩) ts w := by
  have hu : ∀ i, Env.get (List.replicate n ⟨0, 0, [], .undef⟩) i = ⟨0, 0, [], .undef⟩ := fun i => by
    simp only [Env.get, List.getD]
    by_cases hi : i < n
    · simp [hi]
    · simp [List.getElem?_eq_none (by simpa using Nat.le_of_not_lt hi : (List.replicate n (⟨0, 0, [], .undef⟩ : Sl)).length ≤ i)]
  refine { len := by simp [hn], slot := fun i hi => by rw [hu]; trivial, held := fun k h hk => by simp at hk, out := fun _ _ => rfl, nd := fun _ => List.Pairwise.nil, ap := fun _ _ _ _ h => by simp at h,
           ok := fun _ _ h => by simp at h, g0 := fun _ h => h, gl := fun b hb => ⟨hG b hb, .inl hb⟩, turn := Turn.refl _ w, chain := fun i g e h => ?_, lent := fun l _ t m x h => ?_ }
  · rw [hu] at h; cases h
  · rw [hu] at h; cases h

/-- the parameters come into use -/
theorem param_fill {ts : List Value} {L : List (Nat × Nat × Nat)} {w0 : World} {G0 : Nat → Prop} {R0 : List Res} (hL : ∀ l ∈ L, ts.getD l.1 undef = .pointer (some ⟨l.2.1, l.2.2, none⟩)) :
    ∀ (ps : List PK) (s : denAll (ps.map (·.t))) (as : List TV) (vs : List Value) (R : List Res) (i : Nat) {E : Env} {F : Nat → List Res}, decAll (ps.map (·.t)) as = some s → as.map (·.m) = ps.map (·.m) →
    tupRel G w (argTVs ps as) vs R → ND R → (∀ z ∈ R, ¬ G z.blk ∧ z.blk < w.heap.size ∧ (w0.heap.size ≤ z.blk ∨ ∃ q ∈ R0, q.blk = z.blk ∧ q.lo ≤ z.lo ∧ z.hi ≤ q.hi)) → RelX ⟨w0, G0, R0, L⟩ G F [] E ts w →
    (∀ j, i ≤ j → E.get j = ⟨0, 0, [], .undef⟩) → (∀ j, Apart R (F j)) → i + ps.length ≤ E.length → (∀ j, j < ps.length → ts.getD (i + j) undef = vs.getD j undef) →
    ∃ F', RelX ⟨w0, G0, R0, L⟩ G F' [] (paramsOn ps s i E) ts w
  | [], _, _, _, _, _, E, F, _, _, _, _, _, RX, _, _, _, _ => ⟨F, RX⟩
  | p :: ps, s, [], _, _, _, _, _, h, _, _, _, _, _, _, _, _, _ => by simp [decAll] at h
  | p :: ps, s, a :: as, [], _, _, _, _, _, _, h, _, _, _, _, _, _, _ => h.elim
  | p :: ps, s, a :: as, v :: vs, R, i, E, F, hdec, hm, ht, nd, ok, RX, hE, hap, hlen, hts => by
    obtain ⟨y, hy, h⟩ := Option.bind_eq_some_iff.1 hdec
    obtain ⟨s', hs', rfl⟩ := Option.map_eq_some_iff.1 h
    simp only [List.map_cons, List.cons.injEq] at hm
    obtain ⟨ta, ma, xa⟩ := a
    obtain ⟨e, he⟩ := castV_eq hy
    have e' : p.t = ta := e.symm
    obtain ⟨io, tp, mp, mp'⟩ := p
    simp only at e'
    subst e'
    have he' : xa = y := he
    subst he'
    have hmm : ma = mp := hm.1
    subst hmm
    obtain ⟨f1, f2, hv, ht, rfl⟩ := ht
    obtain ⟨n1, n2, n3⟩ := ND.append.1 nd
    have hi : i < E.length := by simp at hlen; omega
    have hv0 : ts.getD i undef = v := by have := hts 0 (by simp); simpa using this
    have hEi := hE i (Nat.le_refl _)
    have next : ∀ {t : Ty} {m : Md} {x : t.den}, vrel G w t m x v f1 → ∃ F', RelX ⟨w0, G0, R0, L⟩ G F' [] (paramsOn ps s' (i + 1) (E.set i ⟨0, 0, [], .val t m x⟩)) ts w := by
      intro t m x hv
      have R1 := RX.fill (d := i) (t := t) (m := m) (x := x) (f := f1) hi (by rw [hEi]) (by rw [hv0]; exact hv) n1 (fun j _ z hz q hq => hap j z (by simp [hz]) q hq) (fun z hz => ok z (by simp [hz]))
        (fun l hl hli _ _ _ _ => by rw [← hli]; exact hL l hl)
      rw [hEi] at R1
      refine param_fill hL ps s' as vs f2 (i + 1) hs' hm.2 ht n2 (fun z hz => ok z (by simp [hz])) R1 (fun j hj => ?_) (fun j z hz q hq => ?_) (by simp at hlen ⊢; omega) (fun j hj => ?_)
      · have hne : i ≠ j := by omega
        have := hE j (by omega)
        simpa [Env.get, List.getD, List.getElem?_set_ne hne] using this
      · unfold upd at hq
        split at hq
        · exact (n3 q hq z hz).symm
        · exact hap j z (by simp [hz]) q hq
      · have := hts (j + 1) (by simp; omega)
        rw [show i + 1 + j = i + (j + 1) by omega]
        simpa using this
    cases io with
    | true => exact next hv
    | false => exact next hv

end
end Go.VL

namespace Go.VL
section
variable {P : Program} {C : Ctx} {G : Nat → Prop} {w : World}

theorem tupRel_append : ∀ (e1 : List TV) (v1 : List Value) {e2 : List TV} {v2 : List Value} {f : List Res}, e1.length = v1.length → tupRel G w (e1 ++ e2) (v1 ++ v2) f → ∃ f1 f2, tupRel G w e1 v1 f1 ∧ tupRel G w e2 v2 f2 ∧ f = f1 ++ f2
  | [], [], e2, v2, f, _, h => ⟨[], f, rfl, h, rfl⟩
  | e :: e1, v :: v1, e2, v2, f, hl, h => by
    obtain ⟨g1, g2, hv, h, rfl⟩ := h
    obtain ⟨f1, f2, h1, h2, rfl⟩ := tupRel_append e1 v1 (by simpa using hl) h
    exact ⟨g1 ++ f1, f2, ⟨g1, f1, hv, h1, rfl⟩, h2, by simp⟩
  | [], _ :: _, _, _, _, hl, _ => by simp at hl
  | _ :: _, [], _, _, _, hl, _ => by simp at hl

theorem argTVs_len : ∀ (ps : List PK) (as : List TV), as.length = ps.length → (argTVs ps as).length = ps.length
  | [], [], _ => rfl
  | p :: ps, a :: as, h => by simp only [argTVs, List.length_cons]; rw [argTVs_len ps as (by simpa using h)]
  | [], _ :: _, h => by simp at h
  | _ :: _, [], h => by simp at h

theorem lents_of : ∀ (ps : List PK) (as : List TV) (vs : List Value) (R : List Res) (i : Nat), as.length = ps.length → tupRel G w (argTVs ps as) vs R →
    ∃ L : List (Nat × Nat × Nat), L.map (·.1) = ioIdx ps i ∧ ∀ l ∈ L, ∃ j, l.1 = i + j ∧ j < ps.length ∧ vs.getD j undef = .pointer (some ⟨l.2.1, l.2.2, none⟩)
  | [], _, _, _, i, _, _ => ⟨[], rfl, fun l hl => by simp at hl⟩
  | p :: ps, [], _, _, _, h, _ => by simp at h
  | p :: ps, a :: as, [], _, _, _, h => h.elim
  | p :: ps, a :: as, v :: vs, R, i, hl, h => by
    obtain ⟨f1, f2, hv, h, rfl⟩ := h
    obtain ⟨L, h1, h2⟩ := lents_of ps as vs f2 (i + 1) (by simpa using hl) h
    have h2' : ∀ l ∈ L, ∃ j, l.1 = i + j ∧ j < (p :: ps).length ∧ (v :: vs).getD j undef = .pointer (some ⟨l.2.1, l.2.2, none⟩) := fun l hl => by
      obtain ⟨j, k1, k2, k3⟩ := h2 l hl
      exact ⟨j + 1, by omega, by simp; omega, by simpa using k3⟩
    obtain ⟨io, tp, mp, mp'⟩ := p
    cases io with
    | false => exact ⟨L, by simp [ioIdx, h1], h2'⟩
    | true =>
      have hv : vrel G w (.ptr a.t) (.o a.m) (some a.x) v f1 := hv
      have hr := hv.1
      simp only [unpack, Ty.agg, if_false, Bool.false_eq_true] at hr
      obtain ⟨y, b, o, c, f, _, hc, _⟩ := hr
      simp only [List.cons.injEq, and_true] at hc
      refine ⟨(i, b, o) :: L, by simp [ioIdx, h1], fun l hl => ?_⟩
      rcases List.mem_cons.1 hl with rfl | hl
      · exact ⟨0, rfl, by simp, by simpa using hc⟩
      · exact h2' l hl

theorem ioVals_idx : ∀ (ps : List PK) (vs : List Value) (i : Nat) (V : Nat → Value), vs.length = ps.length → (∀ j, j < ps.length → i + j ∈ ioIdx ps i → V (i + j) = vs.getD j undef) → ioVals ps vs = (ioIdx ps i).map V
  | [], _, _, _, _, _ => by simp [ioVals, ioIdx]
  | p :: ps, [], _, _, h, _ => by simp at h
  | p :: ps, v :: vs, i, V, h, hV => by
    have tail : (∀ j, i + 1 + j ∈ ioIdx ps (i + 1) → i + (j + 1) ∈ ioIdx (p :: ps) i) → ioVals ps vs = (ioIdx ps (i + 1)).map V := fun hin =>
      ioVals_idx ps vs (i + 1) V (by simpa using h) (fun j hj hm => by
        have := hV (j + 1) (by simp; omega) (hin j hm)
        rw [show i + 1 + j = i + (j + 1) by omega]
        simpa using this)
    cases hio : p.io with
    | false =>
      simp only [ioVals, ioIdx, hio]
      exact tail (fun j hj => by simp only [ioIdx, hio]; rwa [show i + (j + 1) = i + 1 + j by omega])
    | true =>
      simp only [ioVals, ioIdx, hio, List.map_cons]
      rw [tail (fun j hj => by simp only [ioIdx, hio]; rw [show i + (j + 1) = i + 1 + j by omega]; simp [hj])]
      have := hV 0 (by simp) (by simp [ioIdx, hio])
      congr 1
      simpa using this.symm

end
end Go.VL

namespace Go.VL
section
variable {P : Program} {C : Ctx}

/-- a function has come to its end -/
theorem ret_ok (hT : TysOk P C) {g : Sig} {fn : Func} {w w' : World} {G G' : Nat → Prop} {F' : Nat → List Res} {R : List Res} {L : List (Nat × Nat × Nat)} {vs : List Value} {n0 : Nat} {env' : Env} {a' : Act} {gh : List Value} {q : g.R}
    (hvs : vs.length = g.ps.length) (hL1 : L.map (·.1) = ioIdx g.ps n0) (hL2 : ∀ l ∈ L, ∃ j, l.1 = n0 + j ∧ j < g.ps.length ∧ vs.getD j undef = .pointer (some ⟨l.2.1, l.2.2, none⟩)) (hrv : fn.results.toList.all (rvFits a'.tmps.size) = true)
    (R' : RelX ⟨w, G, R, L⟩ G' F' [] env' (ats a' gh) w')
    (hK : ((resR C fn.results.toList g.rs).run [] none env' fun q e => (iosR g.ps n0).run [] none e fun w _ => decAll (g.outs.map (·.1)) (q ++ w)) = some q) :
    ∃ v, (results fn a'.tmps).run P w' = .ok v w' ∧ ∃ v', Ending.returned v = .returned v' ∧ RetOk g.rs.length G w R (ioVals g.ps vs) (encAll g.outs q) v' w' := by
  obtain ⟨us, rvs, G2, F2, env2, hK, hG2, R2, _, hm2, hl2, hres⟩ := resR_run hT _ _ hrv R' hK
  obtain ⟨ws, G3, F3, env3, hK, hG3, R3, hl3, hm3, hv3⟩ := iosR_run g.ps n0 R2 hK
  have henc := enc_dec g.outs (us ++ ws) q hK (by simp [Sig.outs, hm2, hm3])
  have hlu : us.length = g.rs.length := by have := congrArg List.length hm2; simpa using this
  have hH := held_tup (F := F3) (G := G3) (w := w') _ env3.length R3.held
  rw [List.nil_append, List.map_append, List.map_append, List.map_fst_zip (by omega), List.map_snd_zip (by omega), List.map_fst_zip (by simp [hl3]), List.map_snd_zip (by simp [hl3])] at hH
  obtain ⟨fr, fi, h1, h2, h3⟩ := tupRel_append us rvs hl2 hH
  refine ⟨_, results_run hres, _, rfl, G3, rvs, fr, fi, fun b hb => R3.g0 b hb, R3.gl, R3.turn, rfl, ?_, ?_, ?_, ?_⟩
  · rw [henc, ← hlu]; simpa using h1
  · rw [henc, ← hlu, List.drop_left]
    have hio : ioVals g.ps vs = (ioIdx g.ps n0).map fun j => (ats a' gh).getD j undef := by
      refine ioVals_idx g.ps vs n0 _ hvs (fun j hj hmem => ?_)
      rw [← hL1] at hmem
      obtain ⟨l, hl, hlj⟩ := List.mem_map.1 hmem
      have hlj' : l.1 = n0 + j := hlj
      obtain ⟨j', k1, _, k3⟩ := hL2 l hl
      rw [hv3 (n0 + j) (by rw [← hL1]; exact List.mem_map.2 ⟨l, hl, hlj'⟩) l hl hlj', ← k3]
      congr 1
      omega
    rw [hio]
    exact h2
  · rw [← h3]; exact flatF_nd R3.nd R3.ap _ _
  · intro z hz
    rw [← h3] at hz
    obtain ⟨j, _, hj⟩ := mem_flatF _ _ hz
    exact R3.ok j z hj

theorem undef_get (n j : Nat) : Env.get (List.replicate n ⟨0, 0, [], .undef⟩) j = ⟨0, 0, [], .undef⟩ := by
  simp only [Env.get, List.getD]
  by_cases hi : j < n
  · simp [hi]
  · simp [List.getElem?_eq_none (by simpa using Nat.le_of_not_lt hi : (List.replicate n (⟨0, 0, [], .undef⟩ : Sl)).length ≤ j)]

/-- a function does what its native function says -/
theorem fn_ok (hm : P.follows .mixedOrders = true) (hT : TysOk P C) (hE : EqsOk P C) (hTab : TabOk P C) {f : Nat} {fn : Func} {code : Code} {g : Sig} {k : Nat} {Fn : g.S → Option g.R}
    (hf : P.funcs[f]? = some fn) (hb : fn.body = some code) (hname : (fn.name == "runtime.NumGoroutine") = false) (hlen : g.ps.length ≤ fn.ntmps) (hfit : codeFits fn.ntmps code = true) (hrv : fn.results.toList.all (rvFits fn.ntmps) = true)
    (hnd : noDst (ioIdx g.ps 0) code = true) (hF : ∀ s q, Fn s = some q → ∃ ac, AC.ok C k fn.ntmps ac code ∧ fnEv C k g fn code ac s = some q) : CallOk P f ⟨g, Fn⟩ := by
  refine ⟨⟨fn, hf, by rw [hb]; rfl, hname⟩, fun w G as s vs R q hdec hmk ht nd ok hG hq => ?_⟩
  simp only at hdec hmk ht hq ⊢
  have has : as.length = g.ps.length := by have := congrArg List.length hmk; simpa using this
  have hvs : vs.length = g.ps.length := by rw [← tupRel_len _ _ _ ht, argTVs_len _ _ has]
  obtain ⟨L, hL1, hL2⟩ := lents_of g.ps as vs R 0 has ht
  let tmps : Array Value := vs.toArray ++ Array.replicate (fn.ntmps - vs.toArray.size) undef
  have htl : tmps.toList = vs ++ List.replicate (fn.ntmps - vs.length) undef := by simp [tmps]
  have htn : tmps.toList.length = fn.ntmps := by rw [htl]; simp; omega
  have hget : ∀ j, j < g.ps.length → tmps.toList.getD j undef = vs.getD j undef := fun j hj => by
    rw [htl]
    simp [List.getD, List.getElem?_append_left (by omega : j < vs.length)]
  have hL3 : ∀ l ∈ L, tmps.toList.getD l.1 undef = .pointer (some ⟨l.2.1, l.2.2, none⟩) := fun l hl => by
    obtain ⟨j, h1, h2, h3⟩ := hL2 l hl
    rw [h1, Nat.zero_add, hget j h2]
    exact h3
  obtain ⟨F0, R0⟩ := param_fill (w := w) (G := G) (ts := tmps.toList) (L := L) (w0 := w) (G0 := G) (R0 := R) hL3 g.ps s as vs R 0 hdec hmk ht nd
    (fun z hz => ⟨(ok z hz).1, (ok z hz).2, .inr ⟨z, hz, rfl, Nat.le_refl _, Nat.le_refl _⟩⟩) (start_rel htn w G R L hG)
    (fun j _ => undef_get _ _)
    (fun j z _ q hq => by simp at hq) (by simpa using hlen) (fun j hj => by rw [Nat.zero_add]; exact hget j hj)
  have hsz : tmps.size = fn.ntmps := by simpa using htn
  have R0' : RelX ⟨w, G, R, L⟩ G F0 [] (paramsOn g.ps s 0 (List.replicate fn.ntmps ⟨0, 0, [], .undef⟩)) (ats { tmps := tmps, defers := [] } []) w := by
    simpa [ats] using R0
  obtain ⟨ac, hok, hev⟩ := hF s q hq
  unfold fnEv at hev
  refine calls_of_wp hf hb (ev_sound (gh := []) (nt := fn.ntmps) hm hT hE hTab (B := ⟨w, G, R, L⟩) (a := { tmps := tmps, defers := [] }) ac code hok hev (by simpa [hL1] using hnd) hfit R0' hsz rfl (R0.len.trans htn) ?_)
  intro ex env' a' w' G' F' hK R' hs' hd' _
  cases ex with
  | exit id => simp [finR] at hK
  | normal => exact ⟨hd', ret_ok hT hvs hL1 hL2 (by rw [hs']; exact hrv) R' hK⟩
  | ret => exact ⟨hd', ret_ok hT hvs hL1 hL2 (by rw [hs']; exact hrv) R' hK⟩

end
end Go.VL

namespace Go.VL
section
variable {P : Program} {C : Ctx}

/-- a source's slot at the start -/
def srcSl (p : PK) (x : p.t.den) : Sl := ⟨0, 0, [], match p.io with | true => .val (.ptr p.t) (.o p.m) (some x) | false => .val p.t p.m x⟩

theorem paramsOn_low : ∀ (ps : List PK) (s : denAll (ps.map (·.t))) (i : Nat) (E : Env) (j : Nat), j < i → (paramsOn ps s i E).get j = E.get j
  | [], _, _, _, _, _ => rfl
  | p :: ps, s, i, E, j, h => by
    simp only [paramsOn]
    rw [paramsOn_low ps s.2 (i + 1) _ j (by omega)]
    simp [Env.get, List.getD, List.getElem?_set_ne (by omega : i ≠ j)]

theorem paramsOn_len : ∀ (ps : List PK) (s : denAll (ps.map (·.t))) (i : Nat) (E : Env), (paramsOn ps s i E).length = E.length
  | [], _, _, _ => rfl
  | p :: ps, s, i, E => by simp only [paramsOn]; rw [paramsOn_len ps s.2]; simp

theorem paramsOn_get : ∀ (ps : List PK) (s : denAll (ps.map (·.t))) (i : Nat) (E : Env) (j : Nat) (p : PK), ps[j]? = some p → i + ps.length ≤ E.length → ∃ x : p.t.den, (paramsOn ps s i E).get (i + j) = srcSl p x
  | [], _, _, _, j, p, h, _ => by simp at h
  | p0 :: ps, s, i, E, j, p, h, hl => by
    simp only [paramsOn]
    cases j with
    | zero =>
      simp only [List.getElem?_cons_zero, Option.some.injEq] at h
      subst h
      have hlow := fun E' : Env => paramsOn_low ps s.2 (i + 1) E' i (by omega)
      rw [Nat.add_zero]
      have hi : i < E.length := by simp at hl; omega
      refine ⟨s.1, (hlow _).trans ?_⟩
      simp only [Env.get, List.getD, List.getElem?_set_self hi, Option.getD_some, srcSl]
      congr 1
    | succ j =>
      obtain ⟨x, hx⟩ := paramsOn_get ps s.2 (i + 1) (E.set i ⟨0, 0, [], match p0.io with | true => .val (.ptr p0.t) (.o p0.m) (some s.1) | false => .val p0.t p0.m s.1⟩) j p (by simpa using h) (by simp at hl ⊢; omega)
      exact ⟨x, by rw [show i + (j + 1) = i + 1 + j by omega]; exact hx⟩

section
variable {B : Base} {G : Nat → Prop} {F : Nat → List Res} {env : Env} {ts : List Value} {w : World} {n : Nat} {ps : List PK} {vs : List Value}

/-- the sources lie from slot n on -/
def Srcs (n : Nat) (ps : List PK) (vs : List Value) (env : Env) (ts : List Value) : Prop :=
  ∀ (j : Nat) p, ps[j]? = some p → (∃ x : p.t.den, env.get (n + j) = srcSl p x) ∧ ∀ v, vs[j]? = some v → ts.getD (n + j) undef = v

theorem io_src (R : RelX B G F [] env ts w) (hs : Srcs n ps vs env ts) {j : Nat} {p : PK} {pv : Value} (hp : ps[j]? = some p) (hio : p.io = true) (hv : vs[j]? = some pv) :
    ∃ (x : p.t.den) (ad : Addr), (env.get (n + j)).e = .val (.ptr p.t) (.o p.m) (some x) ∧ pv = .pointer (some ad) ∧ ts.getD (n + j) undef = pv := by
  obtain ⟨⟨x, hx⟩, h2⟩ := hs j p hp
  have he : (env.get (n + j)).e = .val (.ptr p.t) (.o p.m) (some x) := by rw [hx]; simp [srcSl, hio]
  obtain ⟨_, hr⟩ := R.rootVal he
  have h3 := h2 pv hv
  have hr := hr.1
  simp only [unpack, Ty.agg, if_false, Bool.false_eq_true] at hr
  obtain ⟨_, b, o, _, _, _, hc, _⟩ := hr
  simp only [List.cons.injEq, and_true] at hc
  exact ⟨x, ⟨b, o, none⟩, he, by rw [← h3]; exact hc, h3⟩

theorem caps_rel (R : RelX B G F [] env ts w) (hs : Srcs n ps vs env ts) : ∀ (js : List Nat) (e : Entry) (pvs : List Value) (g : Fn) (b vs0 : Array Value), slotRel G w env ts e (.func g b vs0) [] → (∀ g e0, e ≠ .g g e0) →
    (∀ j ∈ js, ∃ p, ps[j]? = some p ∧ p.io = true) → optAll (fun j : Nat => vs[j]?) js = some pvs → slotRel G w env ts (capsE n js e) (.func g b (vs0 ++ pvs.toArray)) [] ∧ ∀ g e0, capsE n js e ≠ .g g e0
  | [], e, pvs, g, b, vs0, hrel, hn, _, hp => by
    simp only [optAll, Option.some.injEq] at hp
    subst hp
    exact ⟨by simpa [capsE] using hrel, hn⟩
  | j :: js, e, pvs, g, b, vs0, hrel, hn, hio, hp => by
    simp only [optAll] at hp
    split at hp
    case h_2 => cases hp
    rename_i pv hpv
    obtain ⟨r, hr, rfl⟩ := Option.map_eq_some_iff.1 hp
    obtain ⟨p, hp1, hp2⟩ := hio j (by simp)
    obtain ⟨x, ad, k1, k2, k3⟩ := io_src R hs hp1 hp2 hpv
    have ha : aRel w env ts (n + j) 0 [.der] pv [] := by
      refine ⟨rfl, Nat.zero_le _, fun _ => ⟨_, _, _, _, ad, k1, rfl, ?_, k2⟩⟩
      rw [k3, k2]
      rfl
    have := caps_rel R hs js (.cap e (n + j) 0) r g b (vs0.push pv) ⟨rfl, g, b, vs0, pv, hrel, ha, rfl⟩ (fun _ _ => by simp) (fun j hj => hio j (by simp [hj])) hr
    have e1 : vs0.push pv ++ r.toArray = vs0 ++ (pv :: r).toArray := by apply Array.ext'; simp
    rw [e1] at this
    exact this

theorem lay_rel (R : RelX B G F [] env ts w) (hs : Srcs n ps vs env ts) (hvs : vs.length = ps.length) {l : Lay} {e : Entry} {v : Value} (h : layE n ps env l = some e) (ha : actV w ps vs l v) : slotRel G w env ts e v [] ∧ ∀ g e0, e ≠ .g g e0 := by
  cases l with
  | src j =>
    simp only [layE] at h
    obtain ⟨p, hp, rfl⟩ := Option.map_eq_some_iff.1 h
    have ha : vs[j]? = some v := ha
    obtain ⟨⟨x, hx⟩, h2⟩ := hs j p hp
    have h3 := h2 v ha
    unfold srcE
    cases hio : p.io with
    | true =>
      obtain ⟨x, ad, k1, k2, k3⟩ := io_src R hs hp hio ha
      refine ⟨⟨rfl, Nat.zero_le _, fun _ => ⟨_, _, _, _, ad, k1, rfl, ?_, k2⟩⟩, fun _ _ => by simp⟩
      rw [k3, k2]
      rfl
    | false =>
      have he : (env.get (n + j)).e = .val p.t p.m x := by rw [hx]; simp [srcSl, hio]
      obtain ⟨hlt, hr⟩ := R.rootVal he
      rw [h3] at hr
      simp only
      cases hm : p.m.plain with
      | true =>
        have hmm := plain_md hm
        simp only
        rw [he]
        refine ⟨?_, fun _ _ => by simp⟩
        rw [hmm] at hr ⊢
        have hf := rep_s_fp _ _ _ _ hr.1
        exact hf ▸ hr
      | false =>
        simp only
        refine ⟨⟨rfl, Nat.zero_le _, Nat.zero_le _, fun _ => ⟨_, _, _, _, he, rfl, fun _ => ⟨unpack p.t (ts.getD (n + j) undef), ?_, ?_, .inl ⟨rfl, rfl⟩⟩⟩⟩, fun _ _ => by simp⟩
        · rw [h3]; exact hr.2.symm
        · rw [h3]; exact rep_len _ _ _ _ _ hr.1
  | pt j p is =>
    simp only [layE] at h
    split at h
    case h_2 => cases h
    rename_i pk hpk
    split at h
    case h_2 => cases h
    rename_i hio
    obtain ⟨xs, hxs, h⟩ := Option.bind_eq_some_iff.1 h
    obtain ⟨q, hq, h⟩ := Option.bind_eq_some_iff.1 h
    split at h
    case h_2 => cases h
    rename_i href
    cases h
    obtain ⟨pk', pv, xs', q', ad, a1, a2, a3, a4, a5, a6, a7⟩ := ha
    rw [hpk] at a1
    cases a1
    have hxx : xs = xs' := by
      obtain ⟨l1, g1⟩ := optAll_get hxs
      obtain ⟨l2, g2⟩ := optAll_get a4
      apply List.ext_getElem?
      intro i
      cases hi : is[i]? with
      | none =>
        have := List.getElem?_eq_none_iff.1 hi
        rw [List.getElem?_eq_none (by omega), List.getElem?_eq_none (by omega)]
      | some a =>
        obtain ⟨b1, c1, d1⟩ := g1 i a hi
        obtain ⟨b2, c2, d2⟩ := g2 i a hi
        rw [c1, c2]
        congr 1
        unfold intV at d2
        split at d2
        · rename_i z hz
          cases d2
          unfold intAt at d1
          have hpa : ∃ p, ps[a]? = some p := by
            have := (List.getElem?_eq_some_iff.1 hz).1
            exact ⟨ps[a]'(by omega), by simp [show a < ps.length by omega]⟩
          obtain ⟨p, hpa⟩ := hpa
          obtain ⟨_, h2⟩ := hs a p hpa
          have h3 := h2 _ hz
          split at d1
          · rename_i m x he
            cases d1
            obtain ⟨_, hr⟩ := R.rootVal he
            rw [h3] at hr
            have hr := hr.1
            simp only [unpack, Ty.agg, if_false, Bool.false_eq_true, rep, List.cons.injEq, Value.int.injEq, true_and, and_true] at hr
            exact hr.1.symm
          · cases d1
        · cases d2
    subst hxx
    rw [hq] at a5
    cases a5
    obtain ⟨x, ad', k1, k2, k3⟩ := io_src R hs hpk hio a3
    unfold refOk at href
    rw [k1] at href
    obtain ⟨u, hu⟩ := Option.isSome_iff_exists.1 href
    refine ⟨⟨rfl, Nat.zero_le _, fun _ => ⟨_, _, _, u, ad, k1, hu, ?_, a7⟩⟩, fun _ _ => by simp⟩
    rw [k3, unpack_ptr rfl]
    exact a6
  | clo f js =>
    simp only [layE] at h
    split at h
    case h_2 => cases h
    rename_i hall
    cases h
    obtain ⟨pvs, h1, rfl⟩ := ha
    have := caps_rel R hs js (.val .fn .s (some f)) pvs (.func f) #[] #[] ⟨⟨rfl, rfl⟩, rfl⟩ (fun _ _ => by simp) (fun j hj => by
      have := List.all_eq_true.1 hall j hj
      split at this
      · rename_i pk hpk; exact ⟨pk, hpk, this⟩
      · cases this) h1
    simpa using this

theorem lays_fill (hL : ∀ l ∈ B.lents, n ≤ l.1) (hvs : vs.length = ps.length) : ∀ (ls : List Lay) (acts : List Value) (i : Nat) {F : Nat → List Res} {env env' : Env}, RelX B G F [] env ts w → Srcs n ps vs env ts → laysOn n ps ls i env = some env' → actsV w ps vs ls acts →
    i + ls.length ≤ n → n ≤ env.length → (∀ k, k < acts.length → ts.getD (i + k) undef = acts.getD k undef) → ∃ F', RelX B G F' [] env' ts w
  | [], acts, i, F, env, env', R, _, h, _, _, _, _ => by simp only [laysOn, Option.some.injEq] at h; subst h; exact ⟨F, R⟩
  | l :: ls, [], i, F, env, env', R, _, h, ha, _, _, _ => ha.elim
  | l :: ls, v :: acts, i, F, env, env', R, hs, h, ha, hi, hn, hts => by
    simp only [laysOn] at h
    split at h
    case h_2 => cases h
    rename_i e he
    obtain ⟨ha1, ha2⟩ := ha
    obtain ⟨hrel, hng⟩ := lay_rel R hs hvs he ha1
    simp only [List.length_cons] at hi hts
    have hil : i < env.length := by omega
    have hv : ts.getD i undef = v := by simpa using hts 0 (by omega)
    have R1 := R.setSlot (d := i) (e := e) (c := v) (f := []) hil (slotRel_put hil _ _ _ hrel) List.Pairwise.nil (fun _ _ r hr => by simp at hr) (fun r hr => by simp at hr) (fun g e' h => absurd h (hng g e'))
      (fun l' hl' hd => by have := hL l' hl'; omega)
    rw [← hv, set_getD_self] at R1
    have hs1 : Srcs n ps vs (env.put ⟨i, .all, e⟩) ts := fun j p hp => by
      obtain ⟨⟨x, hx⟩, h2⟩ := hs j p hp
      exact ⟨⟨x, by rw [Env.get_put_other env ⟨i, .all, e⟩ (by simp only; omega)]; exact hx⟩, h2⟩
    exact lays_fill hL hvs ls acts (i + 1) R1 hs1 h ha2 (by omega) (by rw [Env.length_put]; exact hn) (fun k hk => by
      have := hts (k + 1) (by omega)
      rw [show i + 1 + k = i + (k + 1) by omega]
      simpa using this)

theorem actsV_len : ∀ (ls : List Lay) (acts : List Value), actsV w ps vs ls acts → acts.length = ls.length
  | [], [], _ => rfl
  | l :: ls, v :: acts, h => by simp [actsV_len ls acts h.2]
  | [], _ :: _, h => h.elim
  | _ :: _, [], h => h.elim

end

theorem laysOn_len (n : Nat) (ps : List PK) : ∀ (ls : List Lay) (i : Nat) (env env' : Env), laysOn n ps ls i env = some env' → env'.length = env.length
  | [], _, env, env', h => by simp only [laysOn, Option.some.injEq] at h; rw [h]
  | l :: ls, i, env, env', h => by
    simp only [laysOn] at h
    split at h
    · rw [laysOn_len n ps ls (i + 1) _ _ h, Env.length_put]
    · cases h

/-- a function does what its laid contract says -/
theorem fn_okL (hm : P.follows .mixedOrders = true) (hT : TysOk P C) (hE : EqsOk P C) (hTab : TabOk P C) {f : Nat} {fn : Func} {code : Code} {t : TEL} {k : Nat}
    (hf : P.funcs[f]? = some fn) (hb : fn.body = some code) (hname : (fn.name == "runtime.NumGoroutine") = false) (hlen : t.lay.length ≤ fn.ntmps) (hfit : codeFits fn.ntmps code = true) (hrv : fn.results.toList.all (rvFits fn.ntmps) = true)
    (hnd : noDst (ioIdx t.te.sig.ps fn.ntmps) code = true) (hF : ∀ s q, t.te.F s = some q → ∃ ac, AC.ok C k (fn.ntmps + t.te.sig.ps.length) ac code ∧ fnEvL C k t.te.sig t.lay fn code ac s = some q) : CallOkL P f t := by
  refine ⟨⟨fn, hf, by rw [hb]; rfl, hname⟩, fun w G as s vs R q acts hdec hmk ht nd ok hG hacts hq => ?_⟩
  have has : as.length = t.te.sig.ps.length := by have := congrArg List.length hmk; simpa using this
  have hvs : vs.length = t.te.sig.ps.length := by rw [← tupRel_len _ _ _ ht, argTVs_len _ _ has]
  have hal := actsV_len _ _ hacts
  obtain ⟨L, hL1, hL2⟩ := lents_of t.te.sig.ps as vs R fn.ntmps has ht
  let tmps : Array Value := acts.toArray ++ Array.replicate (fn.ntmps - acts.toArray.size) undef
  have htl : tmps.toList = acts ++ List.replicate (fn.ntmps - acts.length) undef := by simp [tmps]
  have htn : tmps.toList.length = fn.ntmps := by rw [htl]; simp; omega
  have hsz : tmps.size = fn.ntmps := by simpa using htn
  let a0 : Act := { tmps := tmps, defers := [] }
  have hget : ∀ j, (ats a0 vs).getD (fn.ntmps + j) undef = vs.getD j undef := fun j => by
    show (tmps.toList ++ vs).getD _ _ = _
    simp [List.getD, List.getElem?_append_right (by omega : tmps.toList.length ≤ fn.ntmps + j), hsz]
  have hlow : ∀ j, j < acts.length → (ats a0 vs).getD (0 + j) undef = acts.getD j undef := fun j hj => by
    show (tmps.toList ++ vs).getD _ _ = _
    rw [Nat.zero_add, htl, List.append_assoc]
    simp [List.getD, List.getElem?_append_left hj]
  have hL3 : ∀ l ∈ L, (ats a0 vs).getD l.1 undef = .pointer (some ⟨l.2.1, l.2.2, none⟩) := fun l hl => by
    obtain ⟨j, h1, h2, h3⟩ := hL2 l hl
    rw [h1, hget j]
    exact h3
  have hal2 : (ats a0 vs).length = fn.ntmps + t.te.sig.ps.length := by
    show (tmps.toList ++ vs).length = _
    rw [List.length_append, htn, hvs]
  obtain ⟨F0, R0⟩ := param_fill (w := w) (G := G) (ts := ats a0 vs) (L := L) (w0 := w) (G0 := G) (R0 := R) hL3 t.te.sig.ps s as vs R fn.ntmps hdec hmk ht nd
    (fun z hz => ⟨(ok z hz).1, (ok z hz).2, .inr ⟨z, hz, rfl, Nat.le_refl _, Nat.le_refl _⟩⟩) (start_rel hal2 w G R L hG)
    (fun j _ => undef_get _ _)
    (fun j z _ q hq => by simp at hq) (by simp) (fun j hj => hget j)
  obtain ⟨ac, hok, hev⟩ := hF s q hq
  unfold fnEvL at hev
  obtain ⟨env1, henv, hev⟩ := Option.bind_eq_some_iff.1 hev
  have hs : Srcs fn.ntmps t.te.sig.ps vs (paramsOn t.te.sig.ps s fn.ntmps (List.replicate (fn.ntmps + t.te.sig.ps.length) ⟨0, 0, [], .undef⟩)) (ats a0 vs) := fun j p hp =>
    ⟨paramsOn_get _ s _ _ j p hp (by simp), fun v hv => by rw [hget j]; simp [List.getD, hv]⟩
  obtain ⟨F1, R1⟩ := lays_fill (B := ⟨w, G, R, L⟩) (fun l hl => by obtain ⟨j, h1, _⟩ := hL2 l hl; omega) hvs t.lay acts 0 R0 hs henv hacts (by omega) (by rw [paramsOn_len]; simp) hlow
  refine calls_of_wp hf hb (ev_sound (gh := vs) (nt := fn.ntmps) hm hT hE hTab (B := ⟨w, G, R, L⟩) (a := a0) ac code hok hev (by simpa [hL1] using hnd) hfit R1 hsz rfl (R1.len.trans hal2) ?_)
  intro ex env' a' w' G' F' hK R' hs' hd' _
  cases ex with
  | exit id => simp [finRL] at hK
  | normal => exact ⟨hd', ret_ok hT hvs hL1 hL2 (by rw [hs']; exact hrv) R' hK⟩
  | ret => exact ⟨hd', ret_ok hT hvs hL1 hL2 (by rw [hs']; exact hrv) R' hK⟩

end
end Go.VL

namespace Go.VL
open Go.RowKit

/-- a law's function, called with values that nobody writes -/
theorem call_law {P : Program} {f : Nat} {te : TE} (hok : CallOk P f te) {w : World} {as : List TV} {s : te.sig.S} {vs : List Value} {q : te.sig.R} (hd : decAll (te.sig.ps.map (·.t)) as = some s) (hm : as.map (·.m) = te.sig.ps.map (·.m))
    (ht : tupRel (fun b => b < w.heap.size) w (argTVs te.sig.ps as) vs []) (hF : te.F s = some q) (hn : te.sig.rs.length = 1) (hq : encAll te.sig.outs q = [⟨.bool, .s, true⟩]) :
    Calls P f vs.toArray w fun e w' => e = .returned (.bool true) ∧ Below w.heap.size w w' := by
  refine Calls.mono (hok.2 w _ as s vs [] q hd hm ht List.Pairwise.nil (fun z hz => by simp at hz) (fun _ h => h) hF) ?_
  rintro e w' ⟨v, rfl, G', rv, fr, fi, h1, h2, h3, rfl, h4, h5, h6, h7⟩
  have hX : ∀ b i, ¬ cellsOf [] b i := by rintro b i ⟨z, hz, _⟩; simp at hz
  refine ⟨?_, h3.os, h3.tape, h3.output, h3.size, fun k hk => h3.block k hk (fun i => hX k i)⟩
  rw [hq, hn] at h4
  match rv, h4 with
  | [x], h4 =>
    obtain ⟨f1, f2, hv, _, _⟩ := h4
    have hr := hv.1
    simp only [unpack, Ty.agg, if_false, Bool.false_eq_true, rep, List.cons.injEq, and_true] at hr
    rw [hr.1]
    rfl

theorem int_arg {G : Nat → Prop} {w : World} (k : IntKind) (n : Int) : vrel G w (.int k) .s n (.int k n) [] := ⟨⟨rfl, rfl⟩, rfl⟩
theorem bool_arg {G : Nat → Prop} {w : World} (b : Bool) : vrel G w .bool .s b (.bool b) [] := ⟨⟨rfl, rfl⟩, rfl⟩

/-- a slice of whole numbers -/
theorem ints_arg {w : World} (k : IntKind) {a : Option Addr} {len cap : Nat} {zs : List Int}
    (h : (a = none ∧ len = 0 ∧ cap = 0 ∧ zs = []) ∨ ∃ x, a = some x ∧ len ≤ cap ∧ zs.length = cap ∧ ∀ i, i < zs.length → w.cell? (x.add i) = some (.int k (zs.getD i 0))) :
    vrel (fun b => b < w.heap.size) w (.list (.int k)) .s (zs.take len) (.slice a len cap) [] := by
  refine ⟨?_, by simp [pack, unpack, Ty.agg]⟩
  simp only [unpack, Ty.agg, if_false, Bool.false_eq_true]
  rcases h with ⟨rfl, rfl, rfl, rfl⟩ | ⟨x, rfl, hlc, hl, hc⟩
  · exact ⟨⟨none, 0, rfl, Nat.le_refl _, fun i hi => by simp at hi⟩, rfl⟩
  · have hlen : (zs.take len).length = len := by simp; omega
    refine ⟨⟨some x, cap, by rw [hlen], by rw [hlen]; exact hlc, fun i hi => ?_⟩, rfl⟩
    rw [hlen] at hi
    have hi' : i < zs.length := by omega
    have hcell := hc i hi'
    have hb := World.block_lt_of_cell? w _ hcell
    rw [add_block] at hb
    refine ⟨x, [.int k (zs.getD i 0)], rfl, hb, ?_, ?_, rfl⟩
    · intro j v hj
      cases j with
      | zero => simp at hj; subst hj; rw [add_add]; simpa [Ty.sz] using hcell
      | succ j => simp at hj
    · simp [List.getD, hi']

end Go.VL

namespace Go.VL

def wfT : (t : Ty) → t.den → Prop
  | .int k, x => (Lit.int k x).wf = true
  | .pair a b, x => wfT a x.1 ∧ wfT b x.2
  | .list a, x => x.length ≤ maxLen ∧ ∀ y ∈ x, wfT a y
  | .arr _ a, x => ∀ y ∈ x, wfT a y
  | _, _ => True

def Ty.hasPtr : Ty → Bool
  | .ptr _ | .fn => true
  | .pair a b => a.hasPtr || b.hasPtr
  | .list a | .arr _ a => a.hasPtr
  | _ => false

section
variable {P : Program} {C : Ctx} {H : Type} {enc : TypeId × Value → H} {w : World} {base : Nat} {spare : Nat → Bool} {held : Bool}

theorem cellsOf_eq (hT : TysOk P C) {T : TypeId} {t : Ty} (h : C.ty T = some t) : P.cellsOf T = t.sz := by
  have := hT T t h
  unfold tyChk at this
  split at this
  case h_2 => cases this
  rename_i i d hi _
  simp only [Bool.and_eq_true, beq_iff_eq] at this
  simp [Program.cellsOf, hi, this.1.1.1]

theorem cells_at {a : Addr} {n : Nat} {cs : List Value} (h : w.cells? base a n = some cs) : cellsAt w a cs ∧ cs.length = n := by
  unfold World.cells? at h
  split at h
  case isFalse => cases h
  have hl : cs.length = n := by simpa using mapM_some_length h
  refine ⟨fun j v hj => ?_, hl⟩
  have hlt := (List.getElem?_eq_some_iff.1 hj).1
  have := mapM_some_get h j j (List.getElem?_range (by omega))
  rw [← hj, ← this]

theorem trod_both (hT : TysOk P C) : ∀ (t : Ty), (∀ (T : TypeId) (fuel : Nat) (cs : List Value) (x : DataW H × List MemPlace), C.ty T = some t → t.hasPtr = false → DataW.trod enc P w base spare held fuel T cs = some x →
    ∃ y : t.den, rep (fun b => b < w.heap.size) w t .s y cs [] ∧ wfT t y) ∧
    (∀ (fs : List Field) (off n : Nat) (cs : List Value), fieldsChk C.ty fs off t = true → t.hasPtr = false → cs.length = off + t.sz → (∀ f ∈ fs, ∃ x, DataW.trod enc P w base spare held n f.type ((cs.drop f.offset).take (P.cellsOf f.type)) = some x) →
      ∃ y : t.den, rep (fun b => b < w.heap.size) w t .s y (cs.drop off) [] ∧ wfT t y) := by
  intro t
  induction t with
  | int k =>
    refine ⟨fun T fuel cs x hC _ h => ?_, fun fs off n cs h => by cases fs <;> simp [fieldsChk] at h⟩
    obtain ⟨d, hd, hk⟩ := (tyF (hT _ _ hC)).und
    cases d <;> simp only [descChk] at hk <;> try (cases hk; done)
    simp only [beq_iff_eq] at hk
    subst hk
    obtain ⟨n, rfl, _, hw⟩ := DataW.trod_int hd h
    exact ⟨n, ⟨rfl, rfl⟩, hw⟩
  | bool =>
    refine ⟨fun T fuel cs x hC _ h => ?_, fun fs off n cs h => by cases fs <;> simp [fieldsChk] at h⟩
    obtain ⟨d, hd, hk⟩ := (tyF (hT _ _ hC)).und
    cases d <;> simp only [descChk] at hk <;> try (cases hk; done)
    obtain ⟨b, rfl, _⟩ := DataW.trod_bool hd h
    exact ⟨b, ⟨rfl, rfl⟩, trivial⟩
  | str =>
    refine ⟨fun T fuel cs x hC _ h => ?_, fun fs off n cs h => by cases fs <;> simp [fieldsChk] at h⟩
    obtain ⟨d, hd, hk⟩ := (tyF (hT _ _ hC)).und
    cases d <;> simp only [descChk] at hk <;> try (cases hk; done)
    obtain ⟨s, rfl, _⟩ := DataW.trod_string hd h
    exact ⟨bytesV s, ⟨⟨s, rfl, rfl⟩, rfl⟩, trivial⟩
  | list a ih =>
    refine ⟨fun T fuel cs x hC hp h => ?_, fun fs off n cs h => by cases fs <;> simp [fieldsChk] at h⟩
    obtain ⟨d, hd, hk⟩ := (tyF (hT _ _ hC)).und
    cases d <;> simp only [descChk] at hk <;> try (cases hk; done)
    rename_i e
    simp only [Bool.and_eq_true] at hk
    have he : C.ty e = some a := by
      have hk1 := hk.1
      split at hk1
      · rename_i a' ha; simp only [decide_eq_true_eq] at hk1; rw [ha, hk1]
      · cases hk1
    rcases DataW.trod_slice hd h with ⟨rfl, _⟩ | ⟨A, len, cap, elems, rest, n, _, rfl, _, _, hlc, hm, hlen, hel, _⟩
    · exact ⟨[], ⟨⟨none, 0, rfl, Nat.le_refl _, fun i hi => by simp at hi⟩, rfl⟩, ⟨by simp, fun y hy => by simp at hy⟩⟩
    · have each : ∀ i, ∃ y : a.den, i < len → (∃ c, cellsAt w (A.add (i * a.sz)) c ∧ A.block < w.heap.size ∧ rep (fun b => b < w.heap.size) w a .s y c []) ∧ wfT a y := fun i => by
        by_cases hi : i < len
        · have h1 := hel i hi
          have hsome : ∃ z, elems[i]? = some z := ⟨elems[i]'(by omega), by simp⟩
          obtain ⟨z, hz⟩ := hsome
          rw [hz] at h1
          obtain ⟨c, hc, htr⟩ := Option.bind_eq_some_iff.1 h1
          rw [cellsOf_eq hT he] at hc
          obtain ⟨hcc, hcl⟩ := cells_at hc
          obtain ⟨y, hy, hw⟩ := ih.1 e n c z he hp htr
          refine ⟨y, fun _ => ⟨⟨c, hcc, ?_, hy⟩, hw⟩⟩
          have hsz : 0 < c.length := by rw [hcl]; have := hk.2; simp at this; omega
          have := World.block_lt_of_cell? w _ (hcc 0 c[0] (List.getElem?_eq_getElem hsz))
          rw [add_block, add_block] at this
          exact this
        · exact ⟨a.zero, fun h => absurd h hi⟩
      obtain ⟨Y, hY⟩ := Classical.axiomOfChoice each
      refine ⟨(List.range len).map Y, ⟨⟨some A, cap, by simp, by simpa using hlc, fun i hi => ?_⟩, rfl⟩, ?_, ?_⟩
      · have hi' : i < len := by simpa using hi
        obtain ⟨⟨c, h1, h2, h3⟩, _⟩ := hY i hi'
        exact ⟨A, c, rfl, h2, h1, by simpa using h3⟩
      · simp; omega
      · intro y hy
        obtain ⟨i, hi, rfl⟩ := List.mem_map.1 hy
        exact (hY i (by simpa using hi)).2
  | ptr a => exact ⟨fun T fuel cs x _ hp => by simp [Ty.hasPtr] at hp, fun fs off n cs h => by cases fs <;> simp [fieldsChk] at h⟩
  | fn => exact ⟨fun T fuel cs x _ hp => by simp [Ty.hasPtr] at hp, fun fs off n cs h => by cases fs <;> simp [fieldsChk] at h⟩
  | unit =>
    refine ⟨fun T fuel cs x hC _ h => ?_, fun fs off n cs _ _ hl _ => ⟨(), ⟨List.drop_eq_nil_of_le (by simp [Ty.sz] at hl; omega), rfl⟩, trivial⟩⟩
    obtain ⟨d, hd, hk⟩ := (tyF (hT _ _ hC)).und
    cases d <;> simp only [descChk] at hk <;> try (cases hk; done)
    obtain ⟨xs, n, _, _, hl, _⟩ := DataW.trod_struct hd h
    rw [cellsOf_eq hT hC] at hl
    exact ⟨(), ⟨List.eq_nil_of_length_eq_zero hl, rfl⟩, trivial⟩
  | arr n a ih =>
    refine ⟨fun T fuel cs x hC hp h => ?_, fun fs off n cs h => by cases fs <;> simp [fieldsChk] at h⟩
    obtain ⟨d, hd, hk⟩ := (tyF (hT _ _ hC)).und
    cases d <;> simp only [descChk] at hk <;> try (cases hk; done)
    rename_i n' e
    simp only [Bool.and_eq_true, beq_iff_eq] at hk
    obtain ⟨⟨rfl, hk1⟩, hk2⟩ := hk
    have he : C.ty e = some a := by
      split at hk1
      · rename_i a' ha; simp only [decide_eq_true_eq] at hk1; rw [ha, hk1]
      · cases hk1
    obtain ⟨xs, m, _, _, hl, hxl, hel⟩ := DataW.trod_array hd h
    rw [cellsOf_eq hT hC] at hl
    have key : ∀ (k o : Nat), o + k = n → ∃ ys : List a.den, ys.length = k ∧ repA (rep (fun b => b < w.heap.size) w a .s) ys (cs.drop (o * a.sz)) [] ∧ ∀ y ∈ ys, wfT a y := by
      intro k
      induction k with
      | zero =>
        intro o ho
        have : o = n := by omega
        subst this
        refine ⟨[], rfl, ⟨?_, rfl⟩, fun y hy => by simp at hy⟩
        apply List.drop_eq_nil_of_le
        rw [hl]
        exact Nat.le_refl _
      | succ k ihk =>
        intro o ho
        obtain ⟨ys, h1, h2, h3⟩ := ihk (o + 1) (by omega)
        have h4 := hel o (by omega)
        rw [cellsOf_eq hT he] at h4
        have hsome : ∃ z, xs[o]? = some z := ⟨xs[o]'(by omega), by simp⟩
        obtain ⟨z, hz⟩ := hsome
        rw [hz] at h4
        obtain ⟨y, hy, hw⟩ := ih.1 e m _ z he hp h4
        refine ⟨y :: ys, by simp [h1], ⟨_, _, [], [], hy, h2, ?_, rfl⟩, fun y' hy' => ?_⟩
        · rw [Nat.add_mul, Nat.one_mul, ← List.drop_drop, List.take_append_drop]
        · rcases List.mem_cons.1 hy' with rfl | hy'
          · exact hw
          · exact h3 y' hy'
    obtain ⟨ys, h1, h2, h3⟩ := key n 0 (by omega)
    exact ⟨ys, ⟨h1, by simpa [Md.e] using h2⟩, h3⟩
  | pair a b iha ihb =>
    have second : ∀ (fs : List Field) (off n : Nat) (cs : List Value), fieldsChk C.ty fs off (.pair a b) = true → (Ty.pair a b).hasPtr = false → cs.length = off + (Ty.pair a b).sz → (∀ f ∈ fs, ∃ x, DataW.trod enc P w base spare held n f.type ((cs.drop f.offset).take (P.cellsOf f.type)) = some x) →
        ∃ y : (Ty.pair a b).den, rep (fun b => b < w.heap.size) w (.pair a b) .s y (cs.drop off) [] ∧ wfT (.pair a b) y := by
      intro fs off n cs hf hp hl hx
      cases fs with
      | nil => simp [fieldsChk] at hf
      | cons f fs =>
        simp only [fieldsChk, Bool.and_eq_true, beq_iff_eq] at hf
        obtain ⟨⟨⟨⟨rfl, h1⟩, _⟩, _⟩, h5⟩ := hf
        have he : C.ty f.type = some a := by
          split at h1
          · rename_i a' ha; simp only [decide_eq_true_eq] at h1; rw [ha, h1]
          · cases h1
        simp only [Ty.hasPtr, Bool.or_eq_false_iff] at hp
        obtain ⟨x, hx1⟩ := hx f (by simp)
        rw [cellsOf_eq hT he] at hx1
        obtain ⟨y1, hy1, hw1⟩ := iha.1 f.type n _ x he hp.1 hx1
        obtain ⟨y2, hy2, hw2⟩ := ihb.2 fs (f.offset + a.sz) n cs h5 hp.2 (by simp only [Ty.sz] at hl; omega) (fun f' hf' => hx f' (by simp [hf']))
        refine ⟨(y1, y2), ⟨_, _, [], [], by simpa [Md.l] using hy1, by simpa [Md.r] using hy2, ?_, rfl⟩, hw1, hw2⟩
        rw [← List.drop_drop, List.take_append_drop]
    refine ⟨fun T fuel cs x hC hp h => ?_, second⟩
    obtain ⟨d, hd, hk⟩ := (tyF (hT _ _ hC)).und
    cases d <;> simp only [descChk] at hk <;> try (cases hk; done)
    rename_i fs
    obtain ⟨xs, n, _, _, hl, hxl, hel⟩ := DataW.trod_struct hd h
    rw [cellsOf_eq hT hC] at hl
    have := second fs.toList 0 n cs hk hp (by omega) (fun f hf => by
      obtain ⟨i, hi, rfl⟩ := List.getElem_of_mem hf
      have h1 := hel i fs.toList[i] (by simp)
      exact ⟨xs[i]'(by simp at hi; omega), by rw [h1]; simp⟩)
    simpa using this

end
end Go.VL

namespace Go.VL

def lookT {α : Type} : List (Nat × α) → Nat → Option α
  | [], _ => none
  | (k, v) :: l, n => match Nat.beq k n with | true => some v | false => lookT l n

theorem lookT_mem {α : Type} : ∀ (l : List (Nat × α)) (n : Nat) (v : α), lookT l n = some v → (n, v) ∈ l
  | (k, v') :: l, n, v, h => by
    simp only [lookT] at h
    split at h
    · rename_i hk
      have := Nat.eq_of_beq_eq_true hk
      cases h
      subst this
      exact .head _
    · exact .tail _ (lookT_mem l n v h)

/-- the table of types is as the program has them -/
theorem tysOk_of {P : Program} {C : Ctx} {l : List (Nat × Ty)} (hC : C.ty = lookT l) (h : (l.all fun p => tyChk P (lookT l) p.1 p.2) = true) : TysOk P C := by
  intro T t ht
  rw [hC] at ht ⊢
  exact List.all_eq_true.1 h _ (lookT_mem l T t ht)

/-- the types that are compared -/
theorem eqsOk_of {P : Program} {C : Ctx} {l : List (Nat × Ty)} (hC : C.ty = lookT l)
    (h : (l.all fun p => !C.eqs p.1 || (eqTyChk P (lookT l) p.2 p.1 && (!p.2.agg || !P.eqGuardType P.depth p.1))) = true) : EqsOk P C := by
  intro T t ht he
  rw [hC] at ht ⊢
  have := List.all_eq_true.1 h _ (lookT_mem l T t ht)
  simp only [he, Bool.not_true, Bool.false_or, Bool.and_eq_true, Bool.or_eq_true, Bool.not_eq_true'] at this
  exact ⟨this.1, fun ha => this.2.resolve_left (by rw [ha]; simp)⟩

end Go.VL

namespace Go.VL
open Go.RowKit Go.ChangeShapes Go.WideShapes

def memN : List Nat → Nat → Bool
  | [], _ => false
  | k :: l, n => match Nat.beq k n with | true => true | false => memN l n

/-! ### The loops' and summaries' native functions, all at once -/
noncomputable def acFix (C : Ctx) (k n : Nat) : AC → Code → AC
  | .sq a b, .seq x y => .sq (acFix C k n a x) (acFix C k n b y)
  | .cd a b, .cond _ x y => .cd (acFix C k n a x) (acFix C k n b y)
  | .bk a, .block _ x => .bk (acFix C k n a x)
  | .lp sh os _ a, .loop x => .lp sh os (fun s => ev C k n a x (sh.enc n s) (finL n sh os)) (acFix C k n a x)
  | .sm sh os _ a, x => .sm sh os (fun s => ev C k n a x (sh.enc n s) (fun ex e => Outs.dec n e ex os)) (acFix C k n a x)
  | a, _ => a

theorem ok_of_fix {C : Ctx} {k n : Nat} : ∀ (a : AC) (c : Code), acFix C k n a c = a → AC.ok C k n a c := by
  intro a
  induction a with
  | rg => intro c _; cases c <;> trivial
  | nx => intro c _; cases c <;> trivial
  | sq a b iha ihb =>
    intro c h
    cases c <;> try trivial
    simp only [acFix, AC.sq.injEq] at h
    exact ⟨iha _ h.1, ihb _ h.2⟩
  | cd a b iha ihb =>
    intro c h
    cases c <;> try trivial
    simp only [acFix, AC.cd.injEq] at h
    exact ⟨iha _ h.1, ihb _ h.2⟩
  | bk a iha =>
    intro c h
    cases c <;> try trivial
    simp only [acFix, AC.bk.injEq] at h
    exact iha _ h
  | lp sh os f a iha =>
    intro c h
    cases c <;> try trivial
    simp only [acFix, AC.lp.injEq, heq_eq_eq, true_and] at h
    exact ⟨fun s => congrFun h.1 s, iha _ h.2⟩
  | sm sh os f a iha =>
    intro c h
    have h : AC.sm sh os (fun s => ev C k n a c (sh.enc n s) (fun ex e => Outs.dec n e ex os)) (acFix C k n a c) = .sm sh os f a := by
      cases c <;> exact h
    simp only [AC.sm.injEq, heq_eq_eq, true_and] at h
    have : (∀ s, ev C k n a c (sh.enc n s) (fun ex e => Outs.dec n e ex os) = f s) ∧ AC.ok C k n a c := ⟨fun s => congrFun h.1 s, iha _ h.2⟩
    cases c <;> exact this

theorem tab_nil {P : Program} : ∀ f te, lookT [] f = some te → CallOk P f te := fun _ _ h => by simp [lookT] at h
theorem tab_cons {P : Program} {n : Nat} {t : TE} {l : List (Nat × TE)} (h : CallOk P n t) (hl : ∀ f te, lookT l f = some te → CallOk P f te) : ∀ f te, lookT ((n, t) :: l) f = some te → CallOk P f te := by
  intro f te he
  rcases List.mem_cons.1 (lookT_mem _ _ _ he) with e | e
  · cases e; exact h
  · simp only [lookT] at he
    split at he
    · rename_i hk
      cases he
      exact (Nat.eq_of_beq_eq_true hk) ▸ h
    · exact hl f te he

/-! ### The row's end -/
def wfAll : (ps : List PK) → denAll (ps.map (·.t)) → Prop
  | [], _ => True
  | p :: ps, s => wfT p.t s.1 ∧ wfAll ps s.2

def psFit (C : Ctx) : List PK → List TypeId → Bool
  | [], [] => true
  | p :: ps, T :: Ts => !p.io && p.m.plain && !p.t.hasPtr && (match C.ty T with | some t => decide (t = p.t) | none => false) && psFit C ps Ts
  | _, _ => false

section
variable {P : Program} {C : Ctx} {H : Type} {enc : TypeId × Value → H} {w : World} {base : Nat} {spare : Nat → Bool} {held : Bool}

theorem okWide_cells (hT : TysOk P C) {T : TypeId} {t : Ty} {v : Value} {r : Reach} {b0 : Nat} (hC : C.ty T = some t) (hp : t.hasPtr = false) (h : Value.okWide P w r b0 T v) : v.cells.toList = unpack t v ∧ pack t (unpack t v) = v := by
  obtain ⟨d, hd, hk⟩ := (tyF (hT _ _ hC)).und
  cases t with
  | int k =>
    cases d <;> simp only [descChk] at hk <;> try (cases hk; done)
    simp only [beq_iff_eq] at hk
    subst hk
    obtain ⟨n, rfl⟩ := okWide_int hd h
    exact ⟨rfl, rfl⟩
  | bool =>
    cases d <;> simp only [descChk] at hk <;> try (cases hk; done)
    obtain ⟨n, rfl⟩ := okWide_bool hd h
    exact ⟨rfl, rfl⟩
  | str =>
    cases d <;> simp only [descChk] at hk <;> try (cases hk; done)
    obtain ⟨n, rfl⟩ := okWide_string hd h
    exact ⟨rfl, rfl⟩
  | list a =>
    cases d <;> simp only [descChk] at hk <;> try (cases hk; done)
    obtain ⟨n, l, c, rfl⟩ := okWide_slice hd h
    exact ⟨rfl, rfl⟩
  | ptr a => simp [Ty.hasPtr] at hp
  | fn => simp [Ty.hasPtr] at hp
  | _ =>
    cases d <;> simp only [descChk] at hk <;> try (cases hk; done)
    all_goals
      simp only [Value.okWide, hd] at h
      obtain ⟨cs, rfl, _⟩ := h
      exact ⟨rfl, rfl⟩

theorem row_args (hT : TysOk P C) {r : Reach} {b0 : Nat} : ∀ (ps : List PK) (Ts : List TypeId) (vs : List Value) (ds : List (DataW H)) (q : List MemPlace), psFit C ps Ts = true → DataW.TrodAll enc P w base spare held Ts vs ds q →
    (∀ (j : Nat) t v, Ts[j]? = some t → vs[j]? = some v → Value.okWide P w r b0 t v) →
    ∃ (s : denAll (ps.map (·.t))) (as : List TV), decAll (ps.map (·.t)) as = some s ∧ as.map (·.m) = ps.map (·.m) ∧ tupRel (fun b => b < w.heap.size) w (argTVs ps as) vs [] ∧ wfAll ps s
  | [], [], vs, ds, q, _, h, _ => by
    obtain ⟨rfl, rfl, rfl⟩ := trodAll_nil h
    exact ⟨(), [], rfl, rfl, rfl, trivial⟩
  | [], _ :: _, _, _, _, h, _, _ => by simp [psFit] at h
  | _ :: _, [], _, _, _, h, _, _ => by simp [psFit] at h
  | p :: ps, T :: Ts, vs, ds, q, hf, h, hv => by
    obtain ⟨v, vs', d, ds', q1, q2, rfl, rfl, rfl, ⟨fuel, h1⟩, h2⟩ := trodAll_cons h
    simp only [psFit, Bool.and_eq_true, Bool.not_eq_true'] at hf
    obtain ⟨⟨⟨⟨f1, f2⟩, f3⟩, f4⟩, f5⟩ := hf
    have hC : C.ty T = some p.t := by
      split at f4
      · rename_i t ht; simp only [decide_eq_true_eq] at f4; rw [ht, f4]
      · cases f4
    obtain ⟨s, as, k1, k2, k3, k4⟩ := row_args hT ps Ts vs' ds' q2 f5 h2 (fun j t v h h' => hv (j + 1) t v (by simpa using h) (by simpa using h'))
    obtain ⟨e1, e2⟩ := okWide_cells hT hC f3 (hv 0 T v rfl rfl)
    rw [e1] at h1
    obtain ⟨y, hy, hw⟩ := (trod_both (C := C) hT p.t).1 T fuel _ _ hC f3 h1
    obtain ⟨io, tp, mp, mp'⟩ := p
    simp only at f1 f2
    subst f1
    have hm := plain_md f2
    subst hm
    refine ⟨(y, s), ⟨tp, .s, y⟩ :: as, ?_, by simpa using k2, ⟨[], [], ⟨hy, e2⟩, k3, rfl⟩, hw, k4⟩
    show ((castV (t := tp) tp y).bind fun x => (decAll (ps.map (·.t)) as).map fun r => (x, r)) = some (y, s)
    rw [k1]
    simp [castV]

theorem trod_len : ∀ {Ts : List TypeId} {vs : List Value} {ds : List (DataW H)} {q : List MemPlace}, DataW.TrodAll enc P w base spare held Ts vs ds q → ds.length = Ts.length
  | [], _, _, _, h => by obtain ⟨rfl, rfl, rfl⟩ := trodAll_nil h; rfl
  | _ :: _, _, _, _, h => by
    obtain ⟨_, _, _, _, _, _, rfl, rfl, rfl, _, h2⟩ := trodAll_cons h
    simp [trod_len h2]

theorem row_back {W W' : World} (hl : laidOutB P = true) (hb : Below W.heap.size W W') : ∀ {Ts : List TypeId} {vs : List Value} {ds : List (DataW H)} {q : List MemPlace}, (Ts.all fun t => P.readableRec t && decide (t < P.types.size)) = true →
    DataW.TrodAll enc P W 0 (fun _ => true) true Ts vs ds q → DataW.TrodAll enc P W' 0 (fun b => decide (b < W.heap.size)) true Ts vs ds q
  | [], vs, ds, q, _, h => by
    obtain ⟨rfl, rfl, rfl⟩ := trodAll_nil h
    exact rfl
  | T :: Ts, vs, ds, q, hr, h => by
    have hlt := h.lt
    obtain ⟨v, vs', d, ds', q1, q2, rfl, rfl, rfl, h1, h2⟩ := trodAll_cons h
    simp only [List.all_cons, Bool.and_eq_true, decide_eq_true_eq] at hr
    exact ⟨q1, q2, Below.trod hl hr.1.1 hr.1.2 h1 hb (fun x hx => hlt x (by simp [hx])), row_back hl hb (by simpa using hr.2) h2, rfl⟩

end
/-- the marks of lists' elements -/
def lookE : List (Ty × Md) → Ty → Md
  | [], _ => .s
  | (a, m) :: l, t => if a = t then m else lookE l t

/-- laid contracts by number -/
def lookLs : List (Nat × TEL) → Nat → List TEL
  | [], _ => []
  | (k, t) :: l, n => match Nat.beq k n with | true => t :: lookLs l n | false => lookLs l n

theorem lay_nil {P : Program} : ∀ f, ∀ t ∈ lookLs [] f, CallOkL P f t := fun _ _ h => by simp [lookLs] at h
theorem lay_cons {P : Program} {n : Nat} {t : TEL} {l : List (Nat × TEL)} (h : CallOkL P n t) (hl : ∀ f, ∀ t ∈ lookLs l f, CallOkL P f t) : ∀ f, ∀ u ∈ lookLs ((n, t) :: l) f, CallOkL P f u := by
  intro f u hu
  simp only [lookLs] at hu
  split at hu
  · rename_i hk
    rcases List.mem_cons.1 hu with rfl | hu
    · exact (Nat.eq_of_beq_eq_true hk) ▸ h
    · exact hl f u hu
  · exact hl f u hu

end Go.VL

namespace Go.VL

abbrev i64 : Ty := .int .i64
abbrev ps2 : List PK := [⟨false, i64, .s, .s⟩, ⟨false, i64, .s, .s⟩]

section
variable {P : Program} {C : Ctx}

/-- a function that returns a closure over two whole numbers -/
def CloRet (P : Program) (fR fC : Nat) (A B X Y : Int) : Prop :=
  (∃ fn, P.funcs[fR]? = some fn ∧ fn.body.isNone = false ∧ (fn.name == "runtime.NumGoroutine") = false) ∧
  ∀ (w : World) (G : Nat → Prop), (∀ b, G b → b < w.heap.size) → Calls P fR #[.int .i64 A, .int .i64 B] w fun e w' => ∃ G' p1 p2 ff, e = .returned (.func (.func fC) #[] #[p1, p2]) ∧ (∀ b, G b → G' b) ∧
    (∀ b, G' b → b < w'.heap.size ∧ (G b ∨ w.heap.size ≤ b)) ∧ Turn (fun _ _ => False) w w' ∧ tupRel G' w' [ptrTV ⟨i64, .s, X⟩, ptrTV ⟨i64, .s, Y⟩] [p1, p2] ff ∧ ND ff ∧ ∀ z ∈ ff, ¬ G' z.blk ∧ z.blk < w'.heap.size ∧ w.heap.size ≤ z.blk

theorem clo_ret (hm : P.follows .mixedOrders = true) (hT : TysOk P C) (hE : EqsOk P C) (hTab : TabOk P C) {fR fC : Nat} {fn : Func} {code : Code} {k sR r1 r2 e1 e2 : Nat} {A B X Y : Int} {ac : AC} {env : Env}
    (hf : P.funcs[fR]? = some fn) (hb : fn.body = some code) (hname : (fn.name == "runtime.NumGoroutine") = false) (hlen : 2 ≤ fn.ntmps) (hfit : codeFits fn.ntmps code = true) (hrv : fn.results = #[.tmp sR]) (_hsR : sR < fn.ntmps)
    (hok : AC.ok C k fn.ntmps ac code) (hev : ev C k fn.ntmps ac code (paramsOn ps2 (A, B, ()) 0 (List.replicate fn.ntmps ⟨0, 0, [], .undef⟩)) (fun ex e => match ex with | .exit _ => none | _ => some e) = some env)
    (h1 : (env.get sR).e = .cap (.cap (.val .fn .s (some fC)) r1 e1) r2 e2) (h2 : (env.get r1).e = .val (.ptr i64) (.o .s) (some X)) (h3 : (env.get r2).e = .val (.ptr i64) (.o .s) (some Y)) (hne : r1 ≠ r2)
    (hf1 : fresh (env.get r1) e1 [] = true) (hf2 : fresh (env.get r2) e2 [] = true) : CloRet P fR fC A B X Y := by
  refine ⟨⟨fn, hf, by rw [hb]; rfl, hname⟩, fun w G hG => ?_⟩
  let tmps : Array Value := #[.int .i64 A, .int .i64 B] ++ Array.replicate (fn.ntmps - 2) undef
  have htl : tmps.toList = [.int .i64 A, .int .i64 B] ++ List.replicate (fn.ntmps - 2) undef := by simp [tmps]
  have htn : tmps.toList.length = fn.ntmps := by rw [htl]; simp; omega
  have hsz : tmps.size = fn.ntmps := by simpa using htn
  obtain ⟨F0, R0⟩ := param_fill (w := w) (G := G) (ts := tmps.toList) (L := []) (w0 := w) (G0 := G) (R0 := []) (fun l hl => by simp at hl) ps2 (A, B, ()) [⟨i64, .s, A⟩, ⟨i64, .s, B⟩] [.int .i64 A, .int .i64 B] [] 0 (by rfl) (by rfl)
    ⟨[], [], int_vrel _ _, ⟨[], [], int_vrel _ _, rfl, rfl⟩, rfl⟩ List.Pairwise.nil (fun z hz => by simp at hz) (start_rel htn w G [] [] hG) (fun j _ => undef_get _ _) (fun j z hz => by simp at hz) (by simpa using hlen) (fun j hj => by
      rw [Nat.zero_add, htl]
      simp only [ps2, List.length_cons, List.length_nil] at hj
      match j, hj with
      | 0, _ => rfl
      | 1, _ => rfl)
  have R0' : RelX ⟨w, G, [], []⟩ G F0 [] (paramsOn ps2 (A, B, ()) 0 (List.replicate fn.ntmps ⟨0, 0, [], .undef⟩)) (ats { tmps := tmps, defers := [] } []) w := by simpa [ats] using R0
  refine calls_of_wp hf hb (ev_sound (gh := []) (nt := fn.ntmps) (r := env) hm hT hE hTab (B := ⟨w, G, [], []⟩) (a := { tmps := tmps, defers := [] }) ac code hok hev (noDst_nil code) hfit R0' hsz rfl (R0.len.trans htn) ?_)
  intro ex env' a' w' G' F' hK R' hs' hd' _
  have key : some env' = some env → a'.defers = [] ∧ ∃ v, (results fn a'.tmps).run P w' = .ok v w' ∧ ∃ G' p1 p2 ff, Ending.returned v = .returned (.func (.func fC) #[] #[p1, p2]) ∧ (∀ b, G b → G' b) ∧
      (∀ b, G' b → b < w'.heap.size ∧ (G b ∨ w.heap.size ≤ b)) ∧ Turn (fun _ _ => False) w w' ∧ tupRel G' w' [ptrTV ⟨i64, .s, X⟩, ptrTV ⟨i64, .s, Y⟩] [p1, p2] ff ∧ ND ff ∧ ∀ z ∈ ff, ¬ G' z.blk ∧ z.blk < w'.heap.size ∧ w.heap.size ≤ z.blk := by
    intro he
    cases he
    refine ⟨hd', ?_⟩
    have hlt := Env.get_lt h1 (by simp)
    have hs := R'.slot sR hlt
    rw [h1] at hs
    have hv := clo_val _ _ _ fC hs rfl (fun x hx => by
      simp only [caps, List.nil_append, List.cons_append, List.mem_cons, List.not_mem_nil, or_false] at hx
      rcases hx with rfl | rfl
      · exact hf1
      · exact hf2)
    simp only [caps, List.nil_append, List.cons_append, List.map_cons, List.map_nil] at hv
    obtain ⟨hl1, q1⟩ := R'.rootVal h2
    obtain ⟨hl2, q2⟩ := R'.rootVal h3
    have hres : (results fn a'.tmps).run P w' = .ok (resV [(ats a' []).getD sR undef]) w' := by
      refine results_run ?_
      rw [hrv]
      have : a'.tmps.getD sR undef = (ats a' []).getD sR undef := by rw [tmps_getD]; simp [ats]
      simp [resM, this, Sem.run_pure]
    refine ⟨_, hres, G', (ats a' []).getD r1 undef, (ats a' []).getD r2 undef, F' r1 ++ F' r2, ?_, fun b hb => R'.g0 b hb, fun b hb => ?_, ?_, ⟨_, _, q1, ⟨_, _, q2, rfl, rfl⟩, by simp⟩, ?_, ?_⟩
    · show Ending.returned ((ats a' []).getD sR undef) = _
      rw [hv]
    · obtain ⟨k1, k2⟩ := R'.gl b hb
      refine ⟨k1, k2.imp id fun k => k.resolve_right ?_⟩
      rintro ⟨x, hx, _⟩
      simp at hx
    · exact { R'.turn with
        cell := fun a ha hx => R'.turn.cell a ha (fun s hc => by obtain ⟨x, hx, _⟩ := hc; simp at hx)
        block := fun b hb hx => R'.turn.block b hb (fun i hc => by obtain ⟨x, hx, _⟩ := hc; simp at hx) }
    · exact ND.append.2 ⟨R'.nd r1, R'.nd r2, R'.ap r1 r2 hne⟩
    · intro z hz
      have : ∃ i, z ∈ F' i := by
        rcases List.mem_append.1 hz with h | h
        · exact ⟨_, h⟩
        · exact ⟨_, h⟩
      obtain ⟨i, hi⟩ := this
      obtain ⟨k1, k2, k3⟩ := R'.ok i z hi
      refine ⟨k1, k2, k3.resolve_right ?_⟩
      rintro ⟨x, hx, _⟩
      simp at hx
  cases ex with
  | exit id => simp at hK
  | normal => exact key hK
  | ret => exact key hK
where
  int_vrel {G : Nat → Prop} {w : World} (k : IntKind) (n : Int) : vrel G w (.int k) .s n (.int k n) [] := ⟨⟨rfl, rfl⟩, rfl⟩
  noDst_nil : ∀ (c : Code), noDst [] c = true
    | .region _ ops _ => by
      simp only [noDst, Array.all_eq_true_iff_forall_mem]
      intro o _
      cases o.dst <;> rfl
    | .seq x y => by simp [noDst, noDst_nil x, noDst_nil y]
    | .cond _ x y => by simp [noDst, noDst_nil x, noDst_nil y]
    | .block _ x => by simp [noDst, noDst_nil x]
    | .loop x => by simp [noDst, noDst_nil x]
    | .skip | .ret | .exit _ | .scope _ | .rangeFunc .. | .label _ | .goto _ | .refuse _ => rfl

/-- the code of a function that asks for a closure and calls it -/
def cloCode (i0 i1 fR : Nat) (A B : Int) (t1 t2 : Array TypeId) (T0 T1 T2 T3 T4 : TypeId) (p0 p1 p2 p3 p4 : String) (a0 a1 a2 a3 a4 : Array Edge) : Code :=
  .seq (.region i0 #[⟨some 2, .assign (.const (.int .i64 0)), T0, p0, a0, none⟩] false)
    (.seq (.region i1 #[⟨some 3, .call ⟨.value (.func fR), #[.const (.int .i64 A), .const (.int .i64 B)], t1⟩, T1, p1, a1, none⟩, ⟨some 4, .move (.tmp 0), T2, p2, a2, none⟩,
      ⟨some 5, .call ⟨.value (.tmp 3), #[.tmp 4], t2⟩, T3, p3, a3, none⟩, ⟨some 2, .assign (.tmp 5), T4, p4, a4, none⟩] false) .ret)

def cloSig : Sig := ⟨[⟨false, i64, .s, .s⟩], [(i64, .s)]⟩
def cloSigC : Sig := ⟨[⟨false, i64, .s, .s⟩, ⟨true, i64, .s, .s⟩, ⟨true, i64, .s, .s⟩], [(i64, .s)]⟩

theorem wp_one {ops : Array Oper} {Q : Exit → Act → World → Prop} {i : Nat} {l : List Nat} {a : Act} {w : World} {o : Oper} (ho : ops[i]? = some o) (hg : o.guard = none) (h : o.wp P a w (wpOps P ops Q l) Q) : wpOps P ops Q (i :: l) a w := by
  rw [wpOps_cons]
  unfold wpOp
  simp only [ho]
  have : Region.wanted o (yielded ops a.tmps) = true := by simp [Region.wanted, hg]
  rw [this]
  exact .inl h

theorem clo_ok {f fR fC i0 i1 : Nat} {fn : Func} {A B X Y : Int} {t1 t2 : Array TypeId} {T0 T1 T2 T3 T4 : TypeId} {p0 p1 p2 p3 p4 : String} {a0 a1 a2 a3 a4 : Array Edge} {FC : cloSigC.S → Option cloSigC.R} {F : cloSig.S → Option cloSig.R}
    (hf : P.funcs[f]? = some fn) (hb : fn.body = some (cloCode i0 i1 fR A B t1 t2 T0 T1 T2 T3 T4 p0 p1 p2 p3 p4 a0 a1 a2 a3 a4)) (hname : (fn.name == "runtime.NumGoroutine") = false) (hn : fn.ntmps = 6) (hrv : fn.results = #[.tmp 2])
    (hR : CloRet P fR fC A B X Y) (hC : CallOk P fC ⟨cloSigC, FC⟩) (hF : ∀ c q, F (c, ()) = some q → ∃ x y, FC (c, X, Y, ()) = some (q.1, x, y, ())) : CallOk P f ⟨cloSig, F⟩ := by
  refine ⟨⟨fn, hf, by rw [hb]; rfl, hname⟩, fun w G as s vs R q hdec hmk ht nd ok hG hq => ?_⟩
  simp only at hdec hmk ht hq ⊢
  match as, hdec, hmk, ht with
  | [⟨t, m, c⟩], hdec, hmk, ht =>
  match vs, ht with
  | [v], ht =>
  obtain ⟨f1, f2, hv, hn2, hRR⟩ := ht
  have hn2 : f2 = [] := hn2
  subst hn2
  have hmm : m = .s := by simpa [cloSig] using hmk
  subst hmm
  obtain ⟨y, hy, h⟩ := Option.bind_eq_some_iff.1 hdec
  obtain ⟨r', hr, rfl⟩ := Option.map_eq_some_iff.1 h
  obtain ⟨e, he⟩ := castV_eq hy
  have e' : t = i64 := e
  subst e'
  have he' : c = y := he
  subst he'
  have hv : vrel G w i64 .s c v f1 := hv
  have hvi : v = .int .i64 c ∧ f1 = [] := by
    have h1 := hv.1
    simp only [unpack, Ty.agg, if_false, Bool.false_eq_true, rep, List.cons.injEq, and_true] at h1
    exact h1
  obtain ⟨rfl, rfl⟩ := hvi
  have hR0 : R = [] := hRR
  subst hR0
  obtain ⟨x, yy, hFC⟩ := hF c q hq
  obtain ⟨⟨fnR, hfR1, hfR2, hfR3⟩, hRc⟩ := hR
  obtain ⟨⟨fnC, hfC1, hfC2, hfC3⟩, hCc⟩ := hC
  refine calls_of_wp hf hb ?_
  unfold cloCode
  have htm : (#[Value.int .i64 c] : Array Value) ++ Array.replicate (fn.ntmps - (#[Value.int .i64 c] : Array Value).size) undef = #[.int .i64 c, undef, undef, undef, undef, undef] := by
    rw [hn]; rfl
  show Code.wp P (Code.seq _ _) (bodyPost P fn _) { tmps := (#[Value.int .i64 c] : Array Value) ++ Array.replicate (fn.ntmps - (#[Value.int .i64 c] : Array Value).size) undef, defers := [] } w
  rw [htm]
  refine wp_seq (wp_region (wp_one rfl rfl ?_))
  show wpOps P _ _ _ _ _
  refine wp_seq (wp_region (wp_one rfl rfl ?_))
  -- the closure is asked for
  unfold Oper.wp
  rw [show (execOp _ _).run P w = .ok (.enter fR #[.int .i64 A, .int .i64 B]) w from by
    have := run_enter (P := P) (w := w) (ts := [.int .i64 c, undef, .int .i64 0, undef, undef, undef]) (x := .func fR) (f := fR) (as := #[.const (.int .i64 A), .const (.int .i64 B)]) (Ts := t1) (ty := T1) (pos := p1) (after := a1) (gd := none) (dst := some 3) rfl ⟨fnR, hfR1, hfR2, hfR3⟩
    simpa [execOp, resolve, Deferred.ofValue, Act.eval, evalO] using this]
  rw [Oper.upon_enter]
  refine Calls.mono (hRc w G hG) ?_
  rintro e w1 ⟨G1, q1, q2, ff, rfl, k1, k2, k3, k4, k5, k6⟩
  refine wp_one rfl rfl ?_
  show wpOps P _ _ _ _ _
  refine wp_one rfl rfl ?_
  unfold Oper.wp
  rw [show (execOp _ _).run P w1 = .ok (.enter fC #[.int .i64 c, q1, q2]) w1 from by
    have := run_enterC (P := P) (w := w1) (ts := [.int .i64 c, undef, .int .i64 0, .func (.func fC) #[] #[q1, q2], .int .i64 c, undef]) (x := .tmp 3) (f := fC) (as := #[.tmp 4]) (Ts := t2) (ty := T3) (pos := p3) (after := a3) (gd := none) (dst := some 5) (cs := [.const q1, .const q2]) rfl ⟨fnC, hfC1, hfC2, hfC3⟩
    simpa [execOp, resolve, Deferred.ofValue, Act.eval, evalO, Act.put] using this]
  rw [Oper.upon_enter]
  have hT1 : tupRel G1 w1 (argTVs cloSigC.ps [⟨i64, .s, c⟩, ⟨i64, .s, X⟩, ⟨i64, .s, Y⟩]) [.int .i64 c, q1, q2] ff := ⟨[], ff, ⟨⟨rfl, rfl⟩, rfl⟩, k4, rfl⟩
  refine Calls.mono (hCc w1 G1 [⟨i64, .s, c⟩, ⟨i64, .s, X⟩, ⟨i64, .s, Y⟩] (c, X, Y, ()) [.int .i64 c, q1, q2] ff _ rfl rfl hT1 k5 (fun z hz => ⟨(k6 z hz).1, (k6 z hz).2.1⟩) (fun b hb => (k2 b hb).1) hFC) ?_
  rintro e w2 ⟨v, rfl, G2, rv, fr, fi, g1, g2, g3, g4, g5, g6, g7, g8⟩
  have hrv2 : v = .int .i64 q.1 ∧ fr = [] := by
    match rv, g5 with
    | [x], g5 =>
      obtain ⟨u1, u2, hx, hu, hfr⟩ := g5
      have hu : u2 = [] := hu
      subst hu
      have h1 := hx.1
      have h1 : rep G2 w2 i64 .s q.1 (unpack i64 x) u1 := h1
      simp only [unpack, Ty.agg, if_false, Bool.false_eq_true, rep, List.cons.injEq, and_true] at h1
      obtain ⟨rfl, rfl⟩ := h1
      exact ⟨g4, hfr⟩
  obtain ⟨rfl, rfl⟩ := hrv2
  refine wp_one rfl rfl ?_
  show Code.wp P _ _ _ _
  refine wp_ret ⟨rfl, .int .i64 q.1, ?_, .int .i64 q.1, rfl, ?_⟩
  · have := results_run (P := P) (fn := fn) (tmps := #[.int .i64 c, undef, .int .i64 q.1, .func (.func fC) #[] #[q1, q2], .int .i64 c, .int .i64 q.1]) (w := w2) (vs := [.int .i64 q.1]) (by rw [hrv]; rfl)
    exact this
  · refine ⟨G, [.int .i64 q.1], [], [], fun _ h => h, fun b hb => ⟨?_, .inl hb⟩, ?_, rfl, ?_, rfl, List.Pairwise.nil, fun z hz => by simp at hz⟩
    · exact Nat.lt_of_lt_of_le (hG b hb) (Nat.le_trans k3.size g3.size)
    · exact k3.trans g3 (fun _ _ _ h => h.elim) (fun b i hlt hx => by
        obtain ⟨z, hz, rfl, _⟩ := hx
        have := (k6 z hz).2.2
        omega)
    · obtain ⟨q1', u⟩ := q
      exact ⟨[], [], ⟨⟨rfl, rfl⟩, rfl⟩, rfl, rfl⟩

end
end Go.VL

namespace Go.VL

/-- does the path leave the block that it starts from? -/
def leaves : List Step → Ty → Bool
  | .fst :: p, .pair a _ => leaves p a
  | .snd :: p, .pair _ b => leaves p b
  | .idx _ :: p, .arr _ a => leaves p a
  | .idx _ :: _, .list _ => true
  | .der :: _, .ptr _ => true
  | _, _ => false

theorem placeOut {G : Nat → Prop} {w : World} : ∀ (p : List Step) (t : Ty) (m : Md) (x : t.den) (b0 o0 : Nat) (c : List Value) (fp : List Res) (v v' : TV) (ad : Addr) (r2 : Md × t.den),
    cellsAt w ⟨b0, o0, none⟩ c → rep G w t m x c fp → getP p t m x = some v → walkA w p t ⟨b0, o0, none⟩ = some ad → setP p t m x v' = some r2 → leaves p t = true → blks fp ad.block := by
  intro p
  induction p with
  | nil => intro t m x b0 o0 c fp v v' ad r2 _ _ _ _ _ hl; simp [leaves] at hl
  | cons s p ih =>
    intro t m x b0 o0 c fp v v' ad r2 hc hr hget hwalk hset hl
    cases s with
    | fst =>
      cases t with
      | pair a bt =>
        obtain ⟨ca, cb, fa, fb, ha, hb, rfl, rfl⟩ := hr
        simp only [getP] at hget
        simp only [walkA] at hwalk
        simp only [leaves] at hl
        simp only [setP, Option.map_eq_some_iff] at hset
        obtain ⟨q, hset, rfl⟩ := hset
        obtain ⟨r, hr, h⟩ := ih a m.l x.1 b0 o0 ca fa v v' ad q (cellsAt_append.1 hc).1 ha hget hwalk hset hl
        exact ⟨r, by simp [hr], h⟩
      | _ => simp [getP] at hget
    | snd =>
      cases t with
      | pair a bt =>
        obtain ⟨ca, cb, fa, fb, ha, hb, rfl, rfl⟩ := hr
        simp only [getP] at hget
        simp only [walkA] at hwalk
        simp only [leaves] at hl
        simp only [setP, Option.map_eq_some_iff] at hset
        obtain ⟨q, hset, rfl⟩ := hset
        have hcb := (cellsAt_append.1 hc).2
        rw [rep_len _ _ _ _ _ ha, add_mk] at hcb
        rw [add_mk] at hwalk
        obtain ⟨r, hr, h⟩ := ih bt m.r x.2 b0 (o0 + a.sz) cb fb v v' ad q hcb hb hget hwalk hset hl
        exact ⟨r, by simp [hr], h⟩
      | _ => simp [getP] at hget
    | idx i =>
      cases t with
      | arr n a =>
        obtain ⟨hn, hr⟩ := hr
        simp only [getP] at hget
        simp only [walkA] at hwalk
        simp only [leaves] at hl
        split at hwalk
        case isFalse => cases hwalk
        case isTrue hi =>
        have hk : i.toNat < x.length := by rw [hn]; exact hi
        simp only [setP, Option.bind_eq_some_iff] at hset
        obtain ⟨q, hset, hq⟩ := hset
        have hx : x.getD i.toNat a.zero = x[i.toNat] := by simp [List.getD, hk]
        rw [hx] at hget hset
        obtain ⟨c1, ck, c2, f1, fk, f2, rfl, rfl, hrk, hl1, -⟩ := repA_split (sz := a.sz) (fun x c f h => rep_len _ _ _ _ _ h) x c fp i.toNat hk hr
        have hck := (cellsAt_append.1 (cellsAt_append.1 hc).2).1
        rw [hl1, add_mk] at hck
        rw [add_mk] at hwalk
        obtain ⟨r, hr, h⟩ := ih a m.e x[i.toNat] b0 (o0 + i.toNat * a.sz) ck fk v v' ad q hck hrk hget hwalk hset hl
        exact ⟨r, by simp [hr], h⟩
      | list a =>
        cases m with
        | o m =>
          simp only [getP] at hget
          simp only [setP, Option.bind_eq_some_iff] at hset
          obtain ⟨q, hset, hq⟩ := hset
          rcases hr with ⟨rfl, rfl, rfl⟩ | ⟨bb, oo, cap, fs, rfl, hlc, rfl, hspb, hr⟩
          · simp [walkA, cell_of hc] at hwalk
          · simp only [walkA, cell_of hc] at hwalk
            split at hwalk
            case isFalse => cases hwalk
            case isTrue hk =>
            have hx : x.getD i.toNat a.zero = x[i.toNat] := by simp [List.getD, hk]
            rw [hx] at hget hset
            obtain ⟨ck, f1, fk, f2, rfl, hck, hrk, -⟩ := repL_split (sz := a.sz) (fun x c f h => rep_len _ _ _ _ _ h) x oo fs i.toNat hk hr
            rw [add_mk] at hwalk
            rcases placeIn p a m x[i.toNat] bb (oo + i.toNat * a.sz) ck fk v v' ad q hck hrk hget hwalk hset with ⟨h1, h2, h3⟩ | ⟨r, hr, h⟩
            · exact ⟨⟨bb, oo, oo + cap * a.sz⟩, by simp, h1.symm⟩
            · exact ⟨r, by simp [hr], h⟩
        | _ => simp [setP] at hset
      | _ => simp [getP] at hget
    | der =>
      cases t with
      | ptr a =>
        cases m with
        | o m =>
          simp only [getP] at hget
          simp only [setP, Option.map_eq_some_iff] at hset
          obtain ⟨q, hset, rfl⟩ := hset
          obtain ⟨y, bb, oo, cc, fs, rfl, rfl, rfl, hspb, hcc, hr⟩ := hr
          simp only [Option.getD_some] at hget hset
          simp only [walkA, cell_of hc] at hwalk
          rcases placeIn p a m y bb oo cc fs v v' ad q hcc hr hget hwalk hset with ⟨h1, h2, h3⟩ | ⟨r, hr, h⟩
          · exact ⟨⟨bb, oo, oo + a.sz⟩, by simp, h1.symm⟩
          · exact ⟨r, by simp [hr], h⟩
        | _ => simp [setP] at hset
      | _ => simp [getP] at hget

theorem perm_of {α : Type} {l l' : List α} (h : ∀ [BEq α] [LawfulBEq α] (a : α), l.count a = l'.count a) : l.Perm l' := by
  haveI : DecidableEq α := Classical.typeDecidableEq α
  rw [List.perm_iff_count]
  exact fun a => h a

/-- two places whose paths part at the fields of a struct -/
theorem lens2 {G : Nat → Prop} {w : World} (q0 qa qb : List Step) (T : Ty) (M : Md) (x : T.den) (b0 o0 : Nat) (c : List Value) (fp : List Res) {a b : Ty} {mz : Md} {z : (Ty.pair a b).den} {ua ub va vb : TV} {ada adb : Addr} {ra : Md × a.den} {rb : Md × b.den} {n : Md × T.den}
    (hc : cellsAt w ⟨b0, o0, none⟩ c) (hr : rep G w T M x c fp) (nd : ND fp) (hb0 : ∀ r ∈ fp, r.blk ≠ b0) (hG0 : ¬ G b0) (hGf : ∀ r ∈ fp, ¬ G r.blk) (hsp : spanOk w b0 (o0 + T.sz))
    (hz : getP q0 T M x = some ⟨.pair a b, mz, z⟩) (ha : getP qa a mz.l z.1 = some ua) (hb : getP qb b mz.r z.2 = some ub)
    (hwa : walkA w (q0 ++ .fst :: qa) T ⟨b0, o0, none⟩ = some ada) (hwb : walkA w (q0 ++ .snd :: qb) T ⟨b0, o0, none⟩ = some adb) (hta : va.t = ua.t) (htb : vb.t = ub.t) (hla : leaves qa a = true) (hlb : leaves qb b = true)
    (hsa : setP qa a mz.l z.1 va = some ra) (hsb : setP qb b mz.r z.2 vb = some rb) (hset : setP q0 T M x ⟨.pair a b, Md.mk ra.1 rb.1, (ra.2, rb.2)⟩ = some n) :
    ∃ ba oa ca fa bb ob cb fb rest, ada = ⟨ba, oa, none⟩ ∧ adb = ⟨bb, ob, none⟩ ∧ cellsAt w ada ca ∧ rep G w ua.t ua.m ua.x ca fa ∧ cellsAt w adb cb ∧ rep G w ub.t ub.m ub.x cb fb ∧ fp.Perm (fa ++ (fb ++ rest)) ∧
      spanOk w ba (oa + ua.t.sz) ∧ spanOk w bb (ob + ub.t.sz) ∧ (∃ r ∈ rest, r.blk = ba ∧ r.lo ≤ oa ∧ oa + ua.t.sz ≤ r.hi) ∧ (∃ r ∈ rest, r.blk = bb ∧ r.lo ≤ ob ∧ ob + ub.t.sz ≤ r.hi) ∧ ba ≠ bb ∧
      ∀ (G' : Nat → Prop) (X : Nat → Nat → Prop) w' ca' cb' ga gb, (∀ b, G b → G' b) → Same X w w' → (∀ b' i, X b' i → ¬ G b') → (∀ b' i, X b' i → cut ba oa ua.t.sz fa b' i ∨ cut bb ob ub.t.sz fb b' i ∨ (b' ≠ b0 ∧ ¬ blks fp b')) →
        cellsAt w' ada ca' → rep G' w' va.t va.m va.x ca' ga → cellsAt w' adb cb' → rep G' w' vb.t vb.m vb.x cb' gb → ∃ c' g, cellsAt w' ⟨b0, o0, none⟩ c' ∧ rep G' w' T n.1 n.2 c' g ∧ g.Perm (ga ++ (gb ++ rest)) := by
  obtain ⟨a1, ha1⟩ := walkA_split q0 _ T _ _ hwa
  rw [walkA_append q0 _ T M x _ _ a1 hz ha1] at hwa hwb
  obtain ⟨bb, oo, cc, f0, pre, post, rfl, hcc, hrz, hfp, hspz, hin, hupd⟩ := lensA q0 T M x b0 o0 c fp ⟨.pair a b, mz, z⟩ ⟨.pair a b, Md.mk ra.1 rb.1, (ra.2, rb.2)⟩ a1 n hc hr nd hb0 hG0 hGf hsp hz ha1 rfl hset
  simp only at hrz hspz hin hupd hwa hwb
  obtain ⟨ca0, cb0, fa0, fb0, hra, hrb, hce, hfe⟩ := hrz
  subst hce hfe
  obtain ⟨hca, hcb⟩ := cellsAt_append.1 hcc
  rw [rep_len _ _ _ _ _ hra, add_mk] at hcb
  simp only [walkA] at hwa
  simp only [walkA, add_mk] at hwb
  subst hfp
  obtain ⟨n1, n2, n3⟩ := ND.append.1 nd
  obtain ⟨n4, n5, n6⟩ := ND.append.1 n2
  obtain ⟨na, nb, nab⟩ := ND.append.1 n4
  have hbbF : bb = b0 ∨ ∃ r ∈ pre ++ post, r.blk = bb := by
    rcases hin with h | ⟨r, hr, h, _⟩
    · exact .inl h.1
    · exact .inr ⟨r, hr, h⟩
  have hfb : ∀ r ∈ fa0 ++ fb0, r.blk ≠ bb := by
    intro r hr he
    rcases hbbF with h | ⟨q, hq, h⟩
    · exact hb0 r (by rw [List.mem_append] at hr; rcases hr with h | h <;> simp [h]) (he.trans h)
    · rcases List.mem_append.1 hq with hq | hq
      · exact n3 q hq r (by rw [List.mem_append] at hr; rcases hr with h | h <;> simp [h]) (h.trans he.symm)
      · exact n6 r hr q hq (he.trans h.symm)
  have hGb : ¬ G bb := by
    rcases hbbF with h | ⟨q, hq, h⟩
    · rw [h]; exact hG0
    · rw [← h]; exact hGf q (by rw [List.mem_append] at hq; rcases hq with h | h <;> simp [h])
  have hspa : spanOk w bb (oo + a.sz) := hspz.mono (by simp only [Ty.sz]; omega)
  have hspb : spanOk w bb (oo + a.sz + b.sz) := hspz.mono (by simp only [Ty.sz]; omega)
  obtain ⟨ba, oa, ca, fa, prea, posta, rfl, ka1, ka2, ka3, ka4, ka5, ka6⟩ := lensA qa a mz.l z.1 bb oo ca0 fa0 ua va ada ra hca hra na (fun r hr => hfb r (by simp [hr])) hGb (fun r hr => hGf r (by simp [hr])) hspa ha hwa hta hsa
  obtain ⟨bb2, ob, cb, fb, preb, postb, rfl, kb1, kb2, kb3, kb4, kb5, kb6⟩ := lensA qb b mz.r z.2 bb (oo + a.sz) cb0 fb0 ub vb adb rb hcb hrb nb (fun r hr => hfb r (by simp [hr])) hGb (fun r hr => hGf r (by simp [hr])) hspb hb hwb htb hsb
  obtain ⟨ya, hya, hyae⟩ := placeOut qa a mz.l z.1 bb oo ca0 fa0 ua va _ ra hca hra ha hwa hsa hla
  obtain ⟨yb, hyb, hybe⟩ := placeOut qb b mz.r z.2 bb (oo + a.sz) cb0 fb0 ub vb _ rb hcb hrb hb hwb hsb hlb
  simp only at hyae hybe
  have oa' : ∃ r ∈ prea ++ posta, r.blk = ba ∧ r.lo ≤ oa ∧ oa + ua.t.sz ≤ r.hi := by
    rcases ka5 with ⟨h, _⟩ | h
    · exact absurd (hyae.trans h) (hfb ya (by simp [hya]))
    · exact h
  have ob' : ∃ r ∈ preb ++ postb, r.blk = bb2 ∧ r.lo ≤ ob ∧ ob + ub.t.sz ≤ r.hi := by
    rcases kb5 with ⟨h, _⟩ | h
    · exact absurd (hybe.trans h) (hfb yb (by simp [hyb]))
    · exact h
  have sa : ∀ r ∈ fa, r ∈ fa0 := fun r hr => by rw [ka3]; simp [hr]
  have sb : ∀ r ∈ fb, r ∈ fb0 := fun r hr => by rw [kb3]; simp [hr]
  refine ⟨ba, oa, ca, fa, bb2, ob, cb, fb, pre ++ ((prea ++ posta) ++ ((preb ++ postb) ++ post)), rfl, rfl, ka1, ka2, kb1, kb2, ?_, ka4, kb4, ?_, ?_, ?_, ?_⟩
  · rw [ka3, kb3]
    exact perm_of fun a => by simp only [List.count_append]; omega
  · obtain ⟨r, hr, h⟩ := oa'
    exact ⟨r, by rw [List.mem_append] at hr; rcases hr with h | h <;> simp [h], h⟩
  · obtain ⟨r, hr, h⟩ := ob'
    exact ⟨r, by rw [List.mem_append] at hr; rcases hr with h | h <;> simp [h], h⟩
  · intro he
    exact nab ya hya yb hyb (hyae.trans (he.trans hybe.symm))
  · intro G' X w' ca' cb' ga gb hGG hs hXG hX hca' hra' hcb' hrb'
    have hbf : ∀ b', (b' ≠ b0 ∧ ¬ blks (pre ++ ((fa0 ++ fb0) ++ post)) b') → b' ≠ bb ∧ ¬ blks fa0 b' ∧ ¬ blks fb0 b' := by
      rintro b' ⟨h1, h2⟩
      refine ⟨?_, fun ⟨r, hr, e⟩ => h2 ⟨r, by simp [hr], e⟩, fun ⟨r, hr, e⟩ => h2 ⟨r, by simp [hr], e⟩⟩
      rintro rfl
      rcases hbbF with h | ⟨q, hq, h⟩
      · exact h1 h
      · exact h2 ⟨q, by rw [List.mem_append] at hq; rcases hq with h | h <;> simp [h], h⟩
    have inA : ∀ b' i, cut ba oa ua.t.sz fa b' i → blks fa0 b' := by
      rintro b' i (⟨h, _⟩ | ⟨r, hr, h⟩)
      · exact ⟨ya, hya, hyae.trans h.symm⟩
      · exact ⟨r, sa r hr, h⟩
    have inB : ∀ b' i, cut bb2 ob ub.t.sz fb b' i → blks fb0 b' := by
      rintro b' i (⟨h, _⟩ | ⟨r, hr, h⟩)
      · exact ⟨yb, hyb, hybe.trans h.symm⟩
      · exact ⟨r, sb r hr, h⟩
    obtain ⟨ca'', pa1, pa2⟩ := ka6 G' X w' ca' ga hGG hs hXG (fun b' i hx => by
      rcases hX b' i hx with h | h | h
      · exact .inl h
      · obtain ⟨r, hr, e⟩ := inB b' i h
        refine .inr ⟨fun e2 => hfb r (by simp [hr]) (e.trans e2), fun ⟨q, hq, e2⟩ => nab q hq r hr (e2.trans e.symm)⟩
      · obtain ⟨h1, h2, _⟩ := hbf b' h
        exact .inr ⟨h1, h2⟩) hca' hra'
    obtain ⟨cb'', pb1, pb2⟩ := kb6 G' X w' cb' gb hGG hs hXG (fun b' i hx => by
      rcases hX b' i hx with h | h | h
      · obtain ⟨r, hr, e⟩ := inA b' i h
        refine .inr ⟨fun e2 => hfb r (by simp [hr]) (e.trans e2), fun ⟨q, hq, e2⟩ => nab r hr q hq (e.trans e2.symm)⟩
      · exact .inl h
      · obtain ⟨h1, _, h3⟩ := hbf b' h
        exact .inr ⟨h1, h3⟩) hcb' hrb'
    obtain ⟨c', q1, q2⟩ := hupd G' X w' (ca'' ++ cb'') ((prea ++ (ga ++ posta)) ++ (preb ++ (gb ++ postb))) hGG hs hXG (fun b' i hx => by
      rcases hX b' i hx with h | h | h
      · obtain ⟨r, hr, e⟩ := inA b' i h
        exact .inl (.inr ⟨r, by simp [hr], e⟩)
      · obtain ⟨r, hr, e⟩ := inB b' i h
        exact .inl (.inr ⟨r, by simp [hr], e⟩)
      · exact .inr h)
      (cellsAt_append.2 ⟨pa1, by rw [rep_len _ _ _ _ _ pa2, add_mk]; exact pb1⟩) ⟨ca'', cb'', _, _, by simpa using pa2, by simpa using pb2, rfl, rfl⟩
    exact ⟨c', _, q1, q2, perm_of fun a => by simp only [List.count_append]; omega⟩

end Go.VL

namespace Go.VL

/-! ### A function of two pointers, called with pointers into two fields of one struct -/
def ipk : PK := ⟨false, i64, .s, .s⟩
def intsOf : (n : Nat) → denAll ((List.replicate n ipk).map (·.t)) → List Int
  | 0, _ => []
  | n + 1, s => s.1 :: intsOf n s.2

def twoG (te : TE) (flip : Bool) (ua ub : TV) : Option (List TV × TV × TV) :=
  match decide ((cond flip [ub, ua] [ua, ub]).map (·.m) = te.sig.ps.map (·.m)) with
  | true => (decAll (te.sig.ps.map (·.t)) (cond flip [ub, ua] [ua, ub])).bind fun s => (te.F s).bind fun r =>
      match (encAll te.sig.outs r).drop te.sig.rs.length with
      | [v1, v2] => some ((encAll te.sig.outs r).take te.sig.rs.length, cond flip v2 v1, cond flip v1 v2)
      | _ => none
  | false => none

def twoF (te : TE) (T : Ty) (M : Md) (q0 qa qb : List Step) (flip : Bool) (x : T.den) : Option (List TV) :=
  match getP q0 T M x with
  | some ⟨.pair a b, mz, z⟩ => match leaves qa a && leaves qb b with
    | true => (getP qa a mz.l z.1).bind fun ua => (getP qb b mz.r z.2).bind fun ub => (twoG te flip ua ub).bind fun y =>
       (setP qa a mz.l z.1 y.2.1).bind fun ra => (setP qb b mz.r z.2 y.2.2).bind fun rb => (setP q0 T M x ⟨.pair a b, Md.mk ra.1 rb.1, (ra.2, rb.2)⟩).bind fun n =>
         match decide (n.1 = M) with | true => some (y.1 ++ [⟨T, M, n.2⟩]) | false => none
    | false => none
  | _ => none

def twoSig (te : TE) (T : Ty) (M : Md) (ka kb : Nat) : Sig := ⟨⟨true, T, M, M⟩ :: List.replicate (ka + kb) ipk, te.sig.rs⟩

def teTwo (te : TE) (T : Ty) (M : Md) (P0 PA PB : List SP) (ka kb : Nat) (flip : Bool) : TE :=
  ⟨twoSig te T M ka kb, fun s => (pathOf P0 []).bind fun q0 => (pathOf PA (cond flip ((intsOf (ka + kb) s.2).drop kb) ((intsOf (ka + kb) s.2).take ka))).bind fun qa =>
    (pathOf PB (cond flip ((intsOf (ka + kb) s.2).take kb) ((intsOf (ka + kb) s.2).drop ka))).bind fun qb => (twoF te T M q0 qa qb flip s.1).bind (decAll ((twoSig te T M ka kb).outs.map (·.1)))⟩

def layTwo (P0 PA PB : List SP) (ka kb : Nat) (flip : Bool) : List Lay :=
  cond flip [.pt 0 (P0 ++ .snd :: PB) (List.range' 1 kb), .pt 0 (P0 ++ .fst :: PA) (List.range' (1 + kb) ka)] [.pt 0 (P0 ++ .fst :: PA) (List.range' 1 ka), .pt 0 (P0 ++ .snd :: PB) (List.range' (1 + ka) kb)]

theorem pathOf_app : ∀ (P0 : List SP) (q0 : List Step) (P : List SP) (xs : List Int), pathOf P0 [] = some q0 → pathOf (P0 ++ P) xs = (pathOf P xs).map (q0 ++ ·)
  | [], q0, P, xs, h => by
    simp only [pathOf, Option.some.injEq] at h
    subst h
    simp
  | .idx :: _, _, _, _, h => by simp [pathOf] at h
  | .fst :: P0, q0, P, xs, h => by
    simp only [pathOf, Option.map_eq_some_iff] at h
    obtain ⟨q1, h, rfl⟩ := h
    simp only [List.cons_append, pathOf, pathOf_app P0 q1 P xs h, Option.map_map]
    rfl
  | .snd :: P0, q0, P, xs, h => by
    simp only [pathOf, Option.map_eq_some_iff] at h
    obtain ⟨q1, h, rfl⟩ := h
    simp only [List.cons_append, pathOf, pathOf_app P0 q1 P xs h, Option.map_map]
    rfl
  | .der :: P0, q0, P, xs, h => by
    simp only [pathOf, Option.map_eq_some_iff] at h
    obtain ⟨q1, h, rfl⟩ := h
    simp only [List.cons_append, pathOf, pathOf_app P0 q1 P xs h, Option.map_map]
    rfl

section
variable {P : Program} {G : Nat → Prop} {w : World}

theorem ints_get : ∀ (n : Nat) (s : denAll ((List.replicate n ipk).map (·.t))) (as : List TV) (vs : List Value) (R : List Res), decAll ((List.replicate n ipk).map (·.t)) as = some s → as.map (·.m) = (List.replicate n ipk).map (·.m) → tupRel G w (argTVs (List.replicate n ipk) as) vs R →
    (intsOf n s).length = n ∧ vs.length = n ∧ R = [] ∧ ∀ (i : Nat) x, (intsOf n s)[i]? = some x → vs[i]? = some (.int .i64 x)
  | 0, s, as, vs, R, hd, _, ht => by
    cases as with
    | cons _ _ => simp [decAll] at hd
    | nil =>
      cases vs with
      | nil => exact ⟨rfl, rfl, ht, fun i x h => by simp [intsOf] at h⟩
      | cons _ _ => exact ht.elim
  | n + 1, s, as, vs, R, hd, hm, ht => by
    simp only [List.replicate_succ, List.map_cons] at hd hm ht
    cases as with
    | nil => simp [decAll] at hd
    | cons a as =>
      cases vs with
      | nil => exact ht.elim
      | cons v vs =>
        obtain ⟨f1, f2, hv, ht, rfl⟩ := ht
        obtain ⟨y, hy, h⟩ := Option.bind_eq_some_iff.1 hd
        obtain ⟨s', hs', rfl⟩ := Option.map_eq_some_iff.1 h
        simp only [List.map_cons, List.cons.injEq] at hm
        obtain ⟨h1, h2, h3, h4⟩ := ints_get n s' as vs f2 hs' hm.2 ht
        obtain ⟨t, m, x⟩ := a
        obtain ⟨e, he⟩ := castV_eq hy
        have e' : t = i64 := e
        subst e'
        have he' : x = y := he
        subst he'
        have hv : vrel G w i64 m x v f1 := hv
        have hvi : v = .int .i64 x ∧ f1 = [] := by
          have h1 := hv.1
          simp only [unpack, Ty.agg, if_false, Bool.false_eq_true, rep, List.cons.injEq, and_true] at h1
          exact h1
        obtain ⟨rfl, rfl⟩ := hvi
        refine ⟨by simp [intsOf, h1], by simp [h2], by simp [h3], fun i x' hi => ?_⟩
        cases i with
        | zero => simp only [intsOf, List.getElem?_cons_zero, Option.some.injEq] at hi; subst hi; rfl
        | succ i => simpa using h4 i x' (by simpa [intsOf] using hi)

theorem optAll_range {vs : List Value} {pv : Value} {xs : List Int} (h : ∀ (i : Nat) x, xs[i]? = some x → vs[i]? = some (.int .i64 x)) {a k : Nat} (hk : a + k ≤ xs.length) :
    optAll (intV (pv :: vs)) (List.range' (1 + a) k) = some ((xs.drop a).take k) := by
  refine optAll_of (by simp; omega) (fun i j hj => ?_)
  have hi : i < k := by have := (List.getElem?_eq_some_iff.1 hj).1; simpa using this
  have hjv : j = 1 + a + i := by
    rw [List.getElem?_range' hi] at hj
    simpa using hj.symm
  subst hjv
  have hx : xs[a + i]? = some (xs[a + i]'(by omega)) := by simp [show a + i < xs.length by omega]
  have hv := h (a + i) _ hx
  have e1 : ((xs.drop a).take k)[i]? = xs[a + i]? := by
    rw [List.getElem?_take_of_lt hi, List.getElem?_drop]
  rw [e1, hx]
  unfold intV
  rw [show 1 + a + i = (a + i) + 1 by omega, List.getElem?_cons_succ, hv]

theorem encAll_m : ∀ (l : List (Ty × Md)) (x : denAll (l.map (·.1))), (encAll l x).map (·.m) = l.map (·.2)
  | [], _ => rfl
  | (t, m) :: l, x => by simp only [encAll, List.map_cons, encAll_m l x.2]

theorem filter_ipk (n : Nat) : (List.replicate n ipk).filter (·.io) = [] := by
  induction n with
  | zero => rfl
  | succ n ih => rw [List.replicate_succ, List.filter_cons]; simp [ipk]

theorem twoSig_outs (te : TE) (T : Ty) (M : Md) (ka kb : Nat) : (twoSig te T M ka kb).outs = te.sig.rs ++ [(T, M)] := by
  simp [Sig.outs, twoSig, filter_ipk]

theorem ioVals_ipk : ∀ (n : Nat) (vs : List Value), ioVals (List.replicate n ipk) vs = []
  | 0, vs => by cases vs <;> rfl
  | n + 1, [] => rfl
  | n + 1, v :: vs => by
    rw [List.replicate_succ]
    simp only [ioVals, ipk]
    exact ioVals_ipk n vs

/-- from the contract over two pointers: one over two places of one struct -/
theorem two_core {f : Nat} {te : TE} {T : Ty} {M : Md} {q0 qa qb : List Step} {flip : Bool} {k1 k2 : PK} (hok : CallOk P f te) (hps : te.sig.ps = [k1, k2]) (hio1 : k1.io = true) (hio2 : k2.io = true)
    {x : T.den} {pv va vb : Value} {R : List Res} {out : List TV} {a0 a1 : Addr} (hp : vrel G w (.ptr T) (.o M) (some x) pv R) (nd : ND R) (ok : ∀ z ∈ R, ¬ G z.blk ∧ z.blk < w.heap.size) (hG : ∀ b, G b → b < w.heap.size)
    (hwa : walkV w (.der :: (q0 ++ .fst :: qa)) (.ptr T) [pv] = some a0) (hwb : walkV w (.der :: (q0 ++ .snd :: qb)) (.ptr T) [pv] = some a1) (hva : va = .pointer (some a0)) (hvb : vb = .pointer (some a1))
    (hF : twoF te T M q0 qa qb flip x = some out) :
    Calls P f (cond flip [vb, va] [va, vb]).toArray w fun e w' => ∃ v, e = .returned v ∧ RetOk te.sig.rs.length G w R [pv] out v w' := by
  unfold twoF at hF
  split at hF
  case h_2 => cases hF
  rename_i a b mz z hz
  split at hF
  case h_2 => cases hF
  rename_i hlv
  simp only [Bool.and_eq_true] at hlv
  obtain ⟨ua, hua, hF⟩ := Option.bind_eq_some_iff.1 hF
  obtain ⟨ub, hub, hF⟩ := Option.bind_eq_some_iff.1 hF
  obtain ⟨⟨rs, na, nb⟩, hy, hF⟩ := Option.bind_eq_some_iff.1 hF
  obtain ⟨ra, hsa, hF⟩ := Option.bind_eq_some_iff.1 hF
  obtain ⟨rb, hsb, hF⟩ := Option.bind_eq_some_iff.1 hF
  obtain ⟨n, hset, hF⟩ := Option.bind_eq_some_iff.1 hF
  simp only at hsa hsb
  split at hF
  case h_2 => cases hF
  rename_i hM
  simp only [decide_eq_true_eq] at hM
  simp only [Option.some.injEq] at hF
  subst hF
  unfold twoG at hy
  split at hy
  case h_2 => cases hy
  rename_i hmk
  simp only [decide_eq_true_eq] at hmk
  obtain ⟨s, hdec, hy⟩ := Option.bind_eq_some_iff.1 hy
  obtain ⟨q, hq, hy⟩ := Option.bind_eq_some_iff.1 hy
  split at hy
  case h_2 => cases hy
  rename_i v1 v2 hdrop
  simp only [Option.some.injEq, Prod.mk.injEq] at hy
  obtain ⟨rfl, hna, hnb⟩ := hy
  -- the root
  have hr := hp.1
  simp only [unpack, Ty.agg, if_false, Bool.false_eq_true] at hr
  obtain ⟨y, b0, o0, c, fR, hx, hpv, rfl, hsp, hc, hrep⟩ := hr
  cases hx
  simp only [List.cons.injEq, and_true] at hpv
  subst hpv
  simp only [walkV] at hwa hwb
  have nd' := List.pairwise_cons.1 nd
  have hb0 : ∀ r ∈ fR, r.blk ≠ b0 := fun r hr => (nd'.1 r hr).symm
  have hG0 : ¬ G b0 := (ok ⟨b0, o0, o0 + T.sz⟩ (by simp)).1
  have hGf : ∀ r ∈ fR, ¬ G r.blk := fun r hr => (ok r (by simp [hr])).1
  have hta := getP_setP_ty _ _ _ _ _ _ _ hua hsa
  have htb := getP_setP_ty _ _ _ _ _ _ _ hub hsb
  obtain ⟨ba, oa, ca, fa, bb, ob, cb, fb, rest, rfl, rfl, g1, g2, g3, g4, g5, g6, g7, g8, g9, gne, g10⟩ := lens2 q0 qa qb T M x b0 o0 c fR hc hrep nd'.2 hb0 hG0 hGf hsp hz hua hub hwa hwb hta htb hlv.1 hlv.2 hsa hsb hset
  have ndp : ND (fa ++ (fb ++ rest)) := (ND.perm g5).1 nd'.2
  obtain ⟨m1, m2, m3⟩ := ND.append.1 ndp
  obtain ⟨m4, m5, m6⟩ := ND.append.1 m2
  have inR : ∀ r, r ∈ fa ++ (fb ++ rest) → r ∈ fR := fun r hr => g5.mem_iff.2 hr
  obtain ⟨wa, hwa1, hwa2⟩ := g8
  obtain ⟨wb, hwb1, hwb2⟩ := g9
  have hfaba : ∀ r ∈ fa, r.blk ≠ ba := fun r hr he => m3 r hr wa (by simp [hwa1]) (he.trans hwa2.1.symm)
  have hfabb : ∀ r ∈ fa, r.blk ≠ bb := fun r hr he => m3 r hr wb (by simp [hwb1]) (he.trans hwb2.1.symm)
  have hfbba : ∀ r ∈ fb, r.blk ≠ ba := fun r hr he => m6 r hr wa hwa1 (he.trans hwa2.1.symm)
  have hfbbb : ∀ r ∈ fb, r.blk ≠ bb := fun r hr he => m6 r hr wb hwb1 (he.trans hwb2.1.symm)
  let RA : List Res := ⟨ba, oa, oa + ua.t.sz⟩ :: fa
  let RB : List Res := ⟨bb, ob, ob + ub.t.sz⟩ :: fb
  have hRA : ∀ r ∈ RA, ∃ y ∈ fR, y.blk = r.blk ∧ y.lo ≤ r.lo ∧ r.hi ≤ y.hi := by
    intro r hr
    rcases List.mem_cons.1 hr with rfl | hr
    · exact ⟨wa, inR _ (by simp [hwa1]), hwa2⟩
    · exact ⟨r, inR _ (by simp [hr]), rfl, Nat.le_refl _, Nat.le_refl _⟩
  have hRB : ∀ r ∈ RB, ∃ y ∈ fR, y.blk = r.blk ∧ y.lo ≤ r.lo ∧ r.hi ≤ y.hi := by
    intro r hr
    rcases List.mem_cons.1 hr with rfl | hr
    · exact ⟨wb, inR _ (by simp [hwb1]), hwb2⟩
    · exact ⟨r, inR _ (by simp [hr]), rfl, Nat.le_refl _, Nat.le_refl _⟩
  have ndA : ND RA := List.pairwise_cons.2 ⟨fun r hr => (hfaba r hr).symm, m1⟩
  have ndB : ND RB := List.pairwise_cons.2 ⟨fun r hr => (hfbbb r hr).symm, m4⟩
  have apAB : Apart RA RB := by
    intro r hr r' hr' he
    rcases List.mem_cons.1 hr with rfl | hr
    · rcases List.mem_cons.1 hr' with rfl | hr'
      · exact gne he
      · exact hfbba r' hr' he.symm
    · rcases List.mem_cons.1 hr' with rfl | hr'
      · exact hfabb r hr he
      · exact m3 r hr r' (by simp [hr']) he
  let R' : List Res := cond flip (RB ++ RA) (RA ++ RB)
  have hR'mem : ∀ r, r ∈ R' ↔ r ∈ RA ∨ r ∈ RB := fun r => by
    cases flip <;> simp [R', or_comm]
  have hR' : ∀ r ∈ R', ∃ y ∈ fR, y.blk = r.blk ∧ y.lo ≤ r.lo ∧ r.hi ≤ y.hi := fun r hr => by
    rcases (hR'mem r).1 hr with h | h
    · exact hRA r h
    · exact hRB r h
  have ndR' : ND R' := by
    cases flip
    · exact ND.append.2 ⟨ndA, ndB, apAB⟩
    · exact ND.append.2 ⟨ndB, ndA, fun r hr r' hr' => (apAB r' hr' r hr).symm⟩
  have okR' : ∀ r ∈ R', ¬ G r.blk ∧ r.blk < w.heap.size := fun r hr => by
    obtain ⟨y, hy, he, _⟩ := hR' r hr
    rw [← he]
    exact ok y (by simp [hy])
  have pA : vrel G w (.ptr ua.t) (.o ua.m) (some ua.x) (.pointer (some ⟨ba, oa, none⟩)) RA := ptr_vrel g6 g1 g2
  have pB : vrel G w (.ptr ub.t) (.o ub.m) (some ub.x) (.pointer (some ⟨bb, ob, none⟩)) RB := ptr_vrel g7 g3 g4
  have hargs : tupRel G w (argTVs te.sig.ps (cond flip [ub, ua] [ua, ub])) (cond flip [vb, va] [va, vb]) R' := by
    rw [hps, hva, hvb]
    cases flip
    · simp only [cond_false, argTVs, hio1, hio2, R']
      exact ⟨RA, RB, pA, ⟨RB, [], pB, rfl, by simp⟩, rfl⟩
    · simp only [cond_true, argTVs, hio1, hio2, R']
      exact ⟨RB, RA, pB, ⟨RA, [], pA, rfl, by simp⟩, rfl⟩
  refine Calls.mono (hok.2 w G _ s _ R' q hdec hmk hargs ndR' okR' hG hq) ?_
  rintro e w' ⟨v, rfl, G', rv, fr, fi, j1, j2, j3, j4, j5, j6, j7, j8⟩
  refine ⟨v, rfl, ?_⟩
  -- what lies behind the pointers now
  have hioV : ioVals te.sig.ps (cond flip [vb, va] [va, vb]) = cond flip [vb, va] [va, vb] := by
    rw [hps]
    cases flip <;> simp [ioVals, hio1, hio2]
  rw [hioV, hdrop] at j6
  obtain ⟨NA, NB, qA, qB, hfi⟩ : ∃ NA NB, vrel G' w' (.ptr na.t) (.o na.m) (some na.x) va NA ∧ vrel G' w' (.ptr nb.t) (.o nb.m) (some nb.x) vb NB ∧ fi.Perm (NA ++ NB) := by
    cases flip
    · simp only [cond_false] at hna hnb j6
      subst hna hnb
      obtain ⟨f1, f2, k1, ⟨f3, f4, k2, k3, rfl⟩, rfl⟩ := j6
      have k3 : f4 = [] := k3
      subst k3
      exact ⟨f1, f3, k1, k2, by simp⟩
    · simp only [cond_true] at hna hnb j6
      subst hna hnb
      obtain ⟨f1, f2, k1, ⟨f3, f4, k2, k3, rfl⟩, rfl⟩ := j6
      have k3 : f4 = [] := k3
      subst k3
      exact ⟨f3, f1, k2, k1, by simpa using List.perm_append_comm⟩
  subst hva hvb
  have hrA := qA.1
  have hrB := qB.1
  simp only [unpack, Ty.agg, if_false, Bool.false_eq_true] at hrA hrB
  obtain ⟨ya, ba', oa', ca', ga, ea1, ea2, rfl, _, hca', hrepa⟩ := hrA
  obtain ⟨yb, bb', ob', cb', gb, eb1, eb2, rfl, _, hcb', hrepb⟩ := hrB
  simp only [List.cons.injEq, Value.pointer.injEq, Option.some.injEq, Addr.mk.injEq, and_true] at ea2 eb2
  obtain ⟨rfl, rfl⟩ := ea2
  obtain ⟨rfl, rfl⟩ := eb2
  simp only [Option.some.injEq] at ea1 eb1
  subst ea1 eb1
  have hXG : ∀ b' i, cellsOf R' b' i → ¬ G b' := by
    rintro b' i ⟨r, hr, rfl, _⟩
    exact (okR' r hr).1
  have hX : ∀ b' i, cellsOf R' b' i → cut ba oa ua.t.sz fa b' i ∨ cut bb ob ub.t.sz fb b' i ∨ (b' ≠ b0 ∧ ¬ blks fR b') := by
    rintro b' i ⟨r, hr, rfl, h1, h2⟩
    rcases (hR'mem r).1 hr with h | h
    · rcases List.mem_cons.1 h with rfl | h
      · exact .inl (.inl ⟨rfl, h1, h2⟩)
      · exact .inl (.inr ⟨r, h, rfl⟩)
    · rcases List.mem_cons.1 h with rfl | h
      · exact .inr (.inl (.inl ⟨rfl, h1, h2⟩))
      · exact .inr (.inl (.inr ⟨r, h, rfl⟩))
  obtain ⟨c', g, p1, p2, p3⟩ := g10 G' (cellsOf R') w' ca' cb' ga gb j1 j3.toSame hXG hX hca' hrepa hcb' hrepb
  have hfi2 : ∀ z, z ∈ fi ↔ z = ⟨ba, oa, oa + na.t.sz⟩ ∨ z ∈ ga ∨ z = ⟨bb, ob, ob + nb.t.sz⟩ ∨ z ∈ gb := fun z => by
    rw [hfi.mem_iff]
    simp
  have ndall : ND (fr ++ ((⟨ba, oa, oa + na.t.sz⟩ :: ga) ++ (⟨bb, ob, ob + nb.t.sz⟩ :: gb))) := (ND.perm (List.Perm.append_left fr hfi)).1 j7
  obtain ⟨d1, d2, d3⟩ := ND.append.1 ndall
  obtain ⟨d4, d5, d6⟩ := ND.append.1 d2
  have d4' := List.pairwise_cons.1 d4
  have d5' := List.pairwise_cons.1 d5
  -- what came back lies apart from the rest of the root
  have free : ∀ z ∈ fr ++ fi, z.blk ≠ ba → z.blk ≠ bb → (∀ r ∈ rest, z.blk ≠ r.blk) ∧ z.blk ≠ b0 := by
    intro z hz h1 h2
    rcases (j8 z hz).2.2 with h | ⟨r, hr, e, _⟩
    · refine ⟨fun r hr he => ?_, fun he => ?_⟩
      · have := (ok r (by simp [inR r (by simp [hr])])).2
        omega
      · have := (ok ⟨b0, o0, o0 + T.sz⟩ (by simp)).2
        simp only at this
        omega
    · rcases (hR'mem r).1 hr with h | h
      · rcases List.mem_cons.1 h with rfl | h
        · exact absurd e.symm h1
        · exact ⟨fun r' hr' he => m3 r h r' (by simp [hr']) (e.trans he), fun he => hb0 r (inR r (by simp [h])) (e.trans he)⟩
      · rcases List.mem_cons.1 h with rfl | h
        · exact absurd e.symm h2
        · exact ⟨fun r' hr' he => m6 r h r' hr' (e.trans he), fun he => hb0 r (inR r (by simp [h])) (e.trans he)⟩
  have za : (⟨ba, oa, oa + na.t.sz⟩ : Res) ∈ fi := (hfi2 _).2 (.inl rfl)
  have zb : (⟨bb, ob, ob + nb.t.sz⟩ : Res) ∈ fi := (hfi2 _).2 (.inr (.inr (.inl rfl)))
  have frA : ∀ z ∈ fr, z.blk ≠ ba ∧ z.blk ≠ bb := fun z hz => ⟨d3 z hz ⟨ba, oa, oa + na.t.sz⟩ (by simp), d3 z hz ⟨bb, ob, ob + nb.t.sz⟩ (by simp)⟩
  have gaA : ∀ z ∈ ga, z.blk ≠ ba ∧ z.blk ≠ bb := fun z hz => ⟨(d4'.1 z hz).symm, d6 z (by simp [hz]) ⟨bb, ob, ob + nb.t.sz⟩ (by simp)⟩
  have gbA : ∀ z ∈ gb, z.blk ≠ ba ∧ z.blk ≠ bb := fun z hz => ⟨(d6 ⟨ba, oa, oa + na.t.sz⟩ (by simp) z (by simp [hz])).symm, (d5'.1 z hz).symm⟩
  have fF : ∀ z ∈ fr, (∀ r ∈ rest, z.blk ≠ r.blk) ∧ z.blk ≠ b0 := fun z hz => free z (by simp [hz]) (frA z hz).1 (frA z hz).2
  have fA : ∀ z ∈ ga, (∀ r ∈ rest, z.blk ≠ r.blk) ∧ z.blk ≠ b0 := fun z hz => free z (by simp [(hfi2 z).2 (.inr (.inl hz))]) (gaA z hz).1 (gaA z hz).2
  have fB : ∀ z ∈ gb, (∀ r ∈ rest, z.blk ≠ r.blk) ∧ z.blk ≠ b0 := fun z hz => free z (by simp [(hfi2 z).2 (.inr (.inr (.inr hz)))]) (gbA z hz).1 (gbA z hz).2
  have hrest0 : ∀ r ∈ rest, r.blk ≠ b0 := fun r hr => hb0 r (inR r (by simp [hr]))
  have ndg : ND (⟨b0, o0, o0 + T.sz⟩ :: (ga ++ (gb ++ rest))) := by
    refine List.pairwise_cons.2 ⟨fun z hz => ?_, ND.append.2 ⟨d4'.2, ND.append.2 ⟨d5'.2, m5, fun z hz r hr => (fB z hz).1 r hr⟩, fun z hz r hr => ?_⟩⟩
    · simp only [List.mem_append] at hz
      rcases hz with h | h | h
      · exact (fA z h).2.symm
      · exact (fB z h).2.symm
      · exact (hrest0 z h).symm
    · rcases List.mem_append.1 hr with h | h
      · exact d6 z (by simp [hz]) r (by simp [h])
      · exact (fA z hz).1 r h
  have blkR : ∀ b', blks R' b' → b' = ba ∨ b' = bb ∨ (∃ r ∈ fa ++ fb, r.blk = b') := by
    rintro b' ⟨r, hr, rfl⟩
    rcases (hR'mem r).1 hr with h | h
    · rcases List.mem_cons.1 h with rfl | h
      · exact .inl rfl
      · exact .inr (.inr ⟨r, by simp [h], rfl⟩)
    · rcases List.mem_cons.1 h with rfl | h
      · exact .inr (.inl rfl)
      · exact .inr (.inr ⟨r, by simp [h], rfl⟩)
  have nG : ∀ r, (r = ⟨b0, o0, o0 + T.sz⟩ ∨ r ∈ rest) → ¬ G' r.blk := by
    intro r hr hg
    have hrb : r ∈ (⟨b0, o0, o0 + T.sz⟩ : Res) :: fR := by
      rcases hr with rfl | h
      · simp
      · simp [inR r (by simp [h])]
    have hrd : ∀ r' ∈ fa ++ fb, r'.blk ≠ r.blk := by
      intro r' hr' he
      rcases hr with rfl | h
      · exact hb0 r' (inR r' (by rw [List.mem_append] at hr'; rcases hr' with h | h <;> simp [h])) he
      · rcases List.mem_append.1 hr' with h' | h'
        · exact m3 r' h' r (by simp [h]) he
        · exact m6 r' h' r h he
    rcases (j2 _ hg).2 with h | h | h
    · exact (ok r hrb).1 h
    · have := (ok r hrb).2
      omega
    · rcases blkR _ h with h | h | ⟨r', hr', e⟩
      · exact (j8 ⟨ba, oa, oa + na.t.sz⟩ (List.mem_append_right _ za)).1 (by rw [h] at hg; exact hg)
      · exact (j8 ⟨bb, ob, ob + nb.t.sz⟩ (List.mem_append_right _ zb)).1 (by rw [h] at hg; exact hg)
      · exact hrd r' hr' e
  have blkMono : ∀ b', blks R' b' → blks (⟨b0, o0, o0 + T.sz⟩ :: fR) b' := by
    rintro b' ⟨r, hr, rfl⟩
    obtain ⟨y, hy, he, _⟩ := hR' r hr
    exact ⟨y, by simp [hy], he⟩
  have hret : ∀ z, z ∈ fr ++ (ga ++ gb) → ¬ G' z.blk ∧ z.blk < w'.heap.size ∧ (w.heap.size ≤ z.blk ∨ ∃ q ∈ (⟨b0, o0, o0 + T.sz⟩ : Res) :: fR, q.blk = z.blk ∧ q.lo ≤ z.lo ∧ z.hi ≤ q.hi) := by
    intro z hz
    have hz' : z ∈ fr ++ fi := by
      simp only [List.mem_append] at hz ⊢
      rcases hz with h | h | h
      · exact .inl h
      · exact .inr ((hfi2 z).2 (.inr (.inl h)))
      · exact .inr ((hfi2 z).2 (.inr (.inr (.inr h))))
    obtain ⟨i1, i2, i3⟩ := j8 z hz'
    refine ⟨i1, i2, i3.imp id ?_⟩
    rintro ⟨r, hr, e1, e2, e3⟩
    obtain ⟨y, hy, e4, e5, e6⟩ := hR' r hr
    exact ⟨y, by simp [hy], by omega, by omega, by omega⟩
  have hlen : (encAll te.sig.outs q).length = te.sig.rs.length + 2 := by
    have := congrArg List.length hdrop
    simp only [List.length_drop, List.length_cons, List.length_nil] at this
    omega
  have hout : ((encAll te.sig.outs q).take te.sig.rs.length).length = te.sig.rs.length := by rw [List.length_take]; omega
  refine ⟨G', rv, fr, ⟨b0, o0, o0 + T.sz⟩ :: g, j1, fun b' hb => ⟨(j2 b' hb).1, (j2 b' hb).2.imp id (Or.imp id (blkMono b'))⟩, j3.trans (Turn.refl (fun _ _ => False) w') (fun b' i _ hx => ?_) (fun _ _ _ h => h.elim), j4, ?_, ?_, ?_, ?_⟩
  · obtain ⟨r, hr, rfl, h1, h2⟩ := hx
    obtain ⟨y, hy, e4, e5, e6⟩ := hR' r hr
    exact ⟨y, by simp [hy], e4, by omega, by omega⟩
  · rw [List.take_append_of_le_length (by omega), List.take_of_length_le (by omega)]
    exact j5
  · rw [List.drop_append_of_le_length (by omega), List.drop_of_length_le (by omega), List.nil_append]
    refine ⟨⟨b0, o0, o0 + T.sz⟩ :: g, [], ?_, rfl, by simp⟩
    show vrel G' w' (.ptr T) (.o M) (some n.2) _ _
    rw [← hM]
    exact ptr_vrel (j3.toSame.span hsp) p1 p2
  · have : (fr ++ ⟨b0, o0, o0 + T.sz⟩ :: g).Perm (fr ++ ⟨b0, o0, o0 + T.sz⟩ :: (ga ++ (gb ++ rest))) := List.Perm.append_left fr (List.Perm.cons _ p3)
    rw [ND.perm this]
    refine ND.append.2 ⟨d1, ndg, fun z hz r hr => ?_⟩
    rcases List.mem_cons.1 hr with rfl | hr
    · exact (fF z hz).2
    · simp only [List.mem_append] at hr
      rcases hr with h | h | h
      · exact d3 z hz r (by simp [h])
      · exact d3 z hz r (by simp [h])
      · exact (fF z hz).1 r h
  · intro z hz
    have old : ∀ r, (r = ⟨b0, o0, o0 + T.sz⟩ ∨ r ∈ rest) → ¬ G' r.blk ∧ r.blk < w'.heap.size ∧ (w.heap.size ≤ r.blk ∨ ∃ q ∈ (⟨b0, o0, o0 + T.sz⟩ : Res) :: fR, q.blk = r.blk ∧ q.lo ≤ r.lo ∧ r.hi ≤ q.hi) := by
      intro r hr
      have hm : r ∈ (⟨b0, o0, o0 + T.sz⟩ : Res) :: fR := by
        rcases hr with rfl | h
        · simp
        · simp [inR r (by simp [h])]
      exact ⟨nG r hr, Nat.lt_of_lt_of_le (ok r hm).2 j3.size, .inr ⟨r, hm, rfl, Nat.le_refl _, Nat.le_refl _⟩⟩
    rcases List.mem_append.1 hz with h | h
    · exact hret z (by simp [h])
    · rcases List.mem_cons.1 h with h | h
      · exact old z (.inl h)
      · have := p3.mem_iff.1 h
        simp only [List.mem_append] at this
        rcases this with h | h | h
        · exact hret z (by simp [h])
        · exact hret z (by simp [h])
        · exact old z (.inr h)

theorem two_ok {f : Nat} {te : TE} {T : Ty} {M : Md} {P0 PA PB : List SP} {ka kb : Nat} {flip : Bool} {k1 k2 : PK} {src : List Src} (hok : CallOk P f te) (hps : te.sig.ps = [k1, k2]) (hio1 : k1.io = true) (hio2 : k2.io = true) :
    CallOkL P f ⟨teTwo te T M P0 PA PB ka kb flip, src, layTwo P0 PA PB ka kb flip⟩ := by
  refine ⟨hok.1, fun w G as s vs R q acts hdec hmk ht nd ok hG hacts hq => ?_⟩
  simp only [teTwo, twoSig] at hdec hmk ht hacts hq s q ⊢
  match as, vs, hdec, hmk, ht with
  | a :: as, pv :: vs, hdec1, hmk1, ht1 =>
  obtain ⟨y, hy, h⟩ := Option.bind_eq_some_iff.1 hdec1
  obtain ⟨s', hs', rfl⟩ := Option.map_eq_some_iff.1 h
  simp only [List.map_cons, List.cons.injEq] at hmk1
  obtain ⟨t, m, x⟩ := a
  obtain ⟨e, he⟩ := castV_eq hy
  have e' : t = T := e
  subst e'
  have he' : x = y := he
  subst he'
  have hm : m = M := hmk1.1
  subst hm
  obtain ⟨f1, f2, hv, ht2, rfl⟩ := ht1
  have hv : vrel G w (.ptr t) (.o m) (some x) pv f1 := hv
  obtain ⟨i1, i2, rfl, i4⟩ := ints_get (ka + kb) s' as vs f2 hs' hmk1.2 ht2
  rw [List.append_nil] at nd ok
  obtain ⟨q0, hq0, hq⟩ := Option.bind_eq_some_iff.1 hq
  obtain ⟨qa, hqa, hq⟩ := Option.bind_eq_some_iff.1 hq
  obtain ⟨qb, hqb, hq⟩ := Option.bind_eq_some_iff.1 hq
  obtain ⟨out, hF, hq⟩ := Option.bind_eq_some_iff.1 hq
  simp only at hqa hqb hF
  -- the pointers
  have pt : ∀ {pt : List SP} {qq : List Step} {a k : Nat} {v : Value}, a + k ≤ ka + kb → pathOf pt (((intsOf (ka + kb) s').drop a).take k) = some qq → actV w (⟨true, t, m, m⟩ :: List.replicate (ka + kb) ipk) (pv :: vs) (.pt 0 (P0 ++ pt) (List.range' (1 + a) k)) v →
      ∃ ad, walkV w (.der :: (q0 ++ qq)) (.ptr t) [pv] = some ad ∧ v = .pointer (some ad) := by
    rintro pt qq a k v hk hp ⟨pk, pv', xs, q', ad, h1, _, h3, h4, h5, h6, h7⟩
    simp only [List.getElem?_cons_zero, Option.some.injEq] at h1 h3
    subst h1 h3
    rw [optAll_range i4 (by omega)] at h4
    cases h4
    rw [pathOf_app P0 q0 pt _ hq0, hp] at h5
    cases h5
    exact ⟨ad, h6, h7⟩
  have fin : ∀ {va vb : Value}, acts = cond flip [vb, va] [va, vb] → (∃ ad, walkV w (.der :: (q0 ++ .fst :: qa)) (.ptr t) [pv] = some ad ∧ va = .pointer (some ad)) → (∃ ad, walkV w (.der :: (q0 ++ .snd :: qb)) (.ptr t) [pv] = some ad ∧ vb = .pointer (some ad)) →
      Calls P f acts.toArray w fun e w' => ∃ v, e = .returned v ∧ RetOk te.sig.rs.length G w (f1 ++ []) (ioVals (⟨true, t, m, m⟩ :: List.replicate (ka + kb) ipk) (pv :: vs)) (encAll (twoSig te t m ka kb).outs q) v w' := by
    rintro va vb rfl ⟨a0, ha0, hva⟩ ⟨a1, ha1, hvb⟩
    have := two_core (G := G) (w := w) hok hps hio1 hio2 hv nd ok hG ha0 ha1 hva hvb hF
    have hio : ioVals (⟨true, t, m, m⟩ :: List.replicate (ka + kb) ipk) (pv :: vs) = [pv] := by
      simp only [ioVals, ioVals_ipk]
    have henc : encAll (twoSig te t m ka kb).outs q = out := by
      refine enc_dec _ _ _ hq ?_
      rw [twoSig_outs]
      exact twoF_marks hF
    rw [hio, henc, List.append_nil]
    exact this
  cases flip with
  | false =>
    simp only [layTwo, cond_false] at hacts hqa hqb
    match acts, hacts with
    | [va, vb], ⟨h1, h2, _⟩ =>
    refine fin rfl ?_ ?_
    · exact pt (a := 0) (k := ka) (by omega) (by simp [pathOf, hqa]) h1
    · exact pt (a := ka) (k := kb) (by omega) (by rw [List.take_of_length_le (by simp; omega)]; simp [pathOf, hqb]) h2
  | true =>
    simp only [layTwo, cond_true] at hacts hqa hqb
    match acts, hacts with
    | [vb, va], ⟨h1, h2, _⟩ =>
    refine fin rfl ?_ ?_
    · exact pt (a := kb) (k := ka) (by omega) (by rw [List.take_of_length_le (by simp; omega)]; simp [pathOf, hqa]) h2
    · exact pt (a := 0) (k := kb) (by omega) (by simp [pathOf, hqb]) h1
where
  twoF_marks {te : TE} {T : Ty} {M : Md} {q0 qa qb : List Step} {flip : Bool} {x : T.den} {out : List TV} (h : twoF te T M q0 qa qb flip x = some out) : out.map (·.m) = (te.sig.rs ++ [(T, M)]).map (·.2) := by
    unfold twoF at h
    split at h
    case h_2 => cases h
    split at h
    case h_2 => cases h
    obtain ⟨ua, _, h⟩ := Option.bind_eq_some_iff.1 h
    obtain ⟨ub, _, h⟩ := Option.bind_eq_some_iff.1 h
    obtain ⟨y, hy, h⟩ := Option.bind_eq_some_iff.1 h
    obtain ⟨_, _, h⟩ := Option.bind_eq_some_iff.1 h
    obtain ⟨_, _, h⟩ := Option.bind_eq_some_iff.1 h
    obtain ⟨n, _, h⟩ := Option.bind_eq_some_iff.1 h
    split at h
    case h_2 => cases h
    cases h
    unfold twoG at hy
    split at hy
    case h_2 => cases hy
    obtain ⟨s, _, hy⟩ := Option.bind_eq_some_iff.1 hy
    obtain ⟨r, _, hy⟩ := Option.bind_eq_some_iff.1 hy
    split at hy
    case h_2 => cases hy
    cases hy
    rw [List.map_append, List.map_append, List.map_take, encAll_m]
    congr 1
    simp [Sig.outs]

theorem CallOkL.congr {f : Nat} {g : Sig} {F F' : g.S → Option g.R} {src : List Src} {lay : List Lay} (h : CallOkL P f ⟨⟨g, F⟩, src, lay⟩) (hF : ∀ s, F' s = F s) : CallOkL P f ⟨⟨g, F'⟩, src, lay⟩ :=
  ⟨h.1, fun w G as s vs R q acts h1 h2 h3 h4 h5 h6 h7 h8 => h.2 w G as s vs R q acts h1 h2 h3 h4 h5 h6 h7 ((hF s).symm.trans h8)⟩

end
end Go.VL
