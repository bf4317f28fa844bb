import Derived.Test.YtjbnedjlcpdekaaV2
import Derived.Laws.Sem
import Derived.Below
import Derived.ChangeArms
import Derived.OpenShut
import Derived.WideShapes
import Derived.ChangeOld

namespace Go.VL
section
variable {P : Program} {C : Ctx} {B : Base} {G : Nat → Prop} {F : Nat → List Res} {H : List (TV × Value)} {env : Env} {ts : List Value} {w : World}
variable {ρ : Type} {c : List GI} {r : ρ}

/-- a root's or a part's mark turns to shared: nothing in memory turns -/
theorem RelX.shareAt (R : RelX B G F H env ts w) {q : Nat} {t : Ty} {m m2 : Md} {x x2 : t.den} {pre f post : List Res}
    (hr : (env.get q).e = .val t m x) (hF : F q = pre ++ (f ++ post)) (hrep : rep (fun b => G b ∨ blks f b) w t m2 x2 (unpack t (ts.getD q undef)) (pre ++ post)) :
    ∃ F', RelX B (fun b => G b ∨ blks f b) F' H (env.put ⟨q, true, .val t m2 x2⟩) ts w := by
  obtain ⟨hlt, hroot⟩ := R.rootVal hr
  have hmem : ∀ z ∈ f, z ∈ F q := fun z hz => by rw [hF]; simp [hz]
  have hmem2 : ∀ z ∈ pre ++ post, z ∈ F q := fun z hz => by rw [hF]; simp at hz ⊢; rcases hz with h | h <;> simp [h]
  have nd := R.nd q
  rw [hF] at nd
  obtain ⟨n1, n2, n3⟩ := ND.append.1 nd
  obtain ⟨n4, n5, n6⟩ := ND.append.1 n2
  exact ⟨_, R.setRoot (X := fun _ _ => False) (b := true) (f' := pre ++ post) hr (fun _ h => .inl h)
    (fun b hb j hj ⟨z, hz, e⟩ => by
      rcases hb with hb | ⟨y, hy, e'⟩
      · exact (R.ok j z hz).1 (e ▸ hb)
      · exact R.ap j q hj z hz y (hmem y hy) (e.trans e'.symm))
    (fun b hb => by
      rcases hb with hb | ⟨y, hy, rfl⟩
      · exact R.gl b hb
      · obtain ⟨_, h2, h3⟩ := R.ok q y (hmem y hy)
        exact ⟨h2, .inr (h3.imp id fun ⟨z, hz, e, _⟩ => ⟨z, hz, e⟩)⟩)
    (Turn.refl _ w) (fun _ _ h => h.elim) (fun _ _ h => h.elim) (fun _ _ _ h => h.elim) ⟨hrep, hroot.2⟩
    (ND.append.2 ⟨n1, n5, fun a ha z hz => n3 a ha z (by simp [hz])⟩)
    (fun j hj a ha z hz => R.ap q j (Ne.symm hj) a (hmem2 a ha) z hz)
    (fun z hz => ⟨fun hb => by
        rcases hb with hb | ⟨y, hy, e⟩
        · exact (R.ok q z (hmem2 z hz)).1 hb
        · rcases List.mem_append.1 hz with h | h
          · exact n3 z h y (by simp [hy]) e.symm
          · exact n6 y hy z h e, (R.ok q z (hmem2 z hz)).2⟩)
    (fun h => by cases h)⟩

theorem share_run {d : Option Nat} {o : Operand} {sl : Sl} {v : Value} {K : TV → Env → Option ρ} (R : RelX B G F H env ts w) (ho : OpRel G F env ts w o sl v)
    (h : (share o sl).run c d env K = some r) : c = [] ∧ ∃ t x G' F' env', K ⟨t, .s, x⟩ env' = some r ∧ (∀ b, G b → G' b) ∧ RelX B G' F' H env' ts w ∧ env'.length = env.length ∧ vrel G' w t .s x v [] := by
  have ho2 : sl.e ≠ .undef → match slotOf o with
    | some s => s < env.length ∧ sl.ep = (env.get s).ep ∧ sl.wc = (env.get s).wc ∧ ((env.get s).e = sl.e ∨ ∃ g, (env.get s).e = .g g sl.e ∧ gOf g = true) ∧ slotRel G w env ts sl.e v (F s)
    | none => ∃ t m x, sl.e = .val t m x ∧ vrel G w t m x v [] := fun hu => ho.2.resolve_left hu
  unfold share at h
  split at h
  · rename_i t m x he
    cases hs : slotOf o with
    | none => simp [hs] at h
    | some s =>
      simp only [hs, Rd.run_bind'] at h
      obtain ⟨t0, m0, x0, h0, _, h⟩ := root_run h
      obtain ⟨hfz, h⟩ := Rd.run_guard h
      obtain ⟨hcn, h⟩ := Rd.run_move (by simp) h
      simp only [Rd.run_pure] at h
      have := ho2 (by rw [he]; simp)
      rw [hs] at this
      obtain ⟨hlt, hep, _, hent, hrel⟩ := this
      have hval : v = ts.getD s undef := by
        have := ho.1
        cases o <;> simp only [slotOf] at hs <;> cases hs
        exact this
      have hroot := (R.rootVal h0).2
      have hsh := rep_share (G' := fun b => G b ∨ blks (F s) b) (fun _ h => .inl h) _ _ _ _ _ hfz (fun z hz => .inr ⟨z, hz, rfl⟩) hroot.1
      obtain ⟨F', R'⟩ := R.shareAt (m2 := .s) (x2 := x0) (pre := []) (f := F s) (post := []) h0 (by simp) hsh
      exact ⟨hcn, t0, x0, _, F', _, h, fun _ h => .inl h, R', Env.length_put _ _, by rw [hval]; exact ⟨hsh, hroot.2⟩⟩
  · rename_i q ep wc p he
    simp only [Rd.run_bind'] at h
    obtain ⟨t, m, x, h1, h2, h⟩ := root_run h
    obtain ⟨u, hu, h⟩ := Rd.run_opt h
    obtain ⟨hga, h⟩ := Rd.run_guard h
    simp only [Bool.and_eq_true] at hga
    obtain ⟨hfz, ha⟩ := hga
    obtain ⟨n, hset, h⟩ := Rd.run_opt h
    obtain ⟨hcn, h⟩ := Rd.run_move (by simp) h
    simp only [Rd.run_pure] at h
    have hrel : slotRel G w env ts (.pref q ep wc p) v [] := by
      have := ho2 (by rw [he]; simp)
      cases hs : slotOf o with
      | some s' =>
        rw [hs] at this
        have := this.2.2.2.2
        rw [he] at this
        exact ⟨rfl, this.2⟩
      | none =>
        rw [hs] at this
        obtain ⟨t', m', x', he', _⟩ := this
        rw [he] at he'
        cases he'
    obtain ⟨_, _, _, hrel⟩ := hrel
    obtain ⟨t', m', x', u', hr', hu', hc⟩ := hrel h2
    rw [h1] at hr'
    cases hr'
    rw [hu] at hu'
    cases hu'
    obtain ⟨cs, rfl, hl, hp⟩ := hc ha
    obtain ⟨hlt, hroot⟩ := R.rootVal h1
    rcases hp with ⟨rfl, rfl⟩ | ⟨ad, hw, hcc⟩
    · simp only [getP, Option.some.injEq] at hu
      subst hu
      simp only [setP, castV, dif_pos, Option.map_some, Option.some.injEq] at hset
      subst hset
      have hsh := rep_share (G' := fun b => G b ∨ blks (F q) b) (fun _ h => .inl h) _ _ _ _ _ hfz (fun z hz => .inr ⟨z, hz, rfl⟩) hroot.1
      obtain ⟨F', R'⟩ := R.shareAt (m2 := .s) (x2 := x) (pre := []) (f := F q) (post := []) h1 (by simp) hsh
      exact ⟨hcn, t, x, _, F', _, h, fun _ h => .inl h, R', Env.length_put _ _, vrel_pack hsh⟩
    · obtain ⟨b, o', c1, f, pre, post, rfl, hc1, hr1, hF, hsp, hin, hupd⟩ := lensV p t m x _ _ u ⟨u.t, .s, u.x⟩ ad n hroot.1 (R.nd q) (fun r hr => (R.ok q r hr).1) hu hw rfl hset
      have hcc1 : cs = c1 := cellsAt_inj hcc hc1 (by rw [hl, rep_len _ _ _ _ _ hr1])
      subst hcc1
      have hsh := rep_share (G' := fun b => G b ∨ blks f b) (fun _ h => .inl h) _ _ _ _ _ hfz (fun z hz => .inr ⟨z, hz, rfl⟩) hr1
      have hnew := hupd (fun b => G b ∨ blks f b) w cs [] (fun _ h => .inl h) (Same.refl _ w) hc1 hsh
      obtain ⟨F', R'⟩ := R.shareAt (m2 := n.1) (x2 := n.2) (pre := pre) (f := f) (post := post) h1 hF (by simpa using hnew)
      exact ⟨hcn, u.t, u.x, _, F', _, h, fun _ h => .inl h, R', Env.length_put _ _, vrel_pack hsh⟩
  · simp at h

/-- the operands of the kind f -/
def selV (f : PK → Bool) : List PK → List Operand → List (PK × Operand)
  | k :: ks, o :: os => match f k with | true => (k, o) :: selV f ks os | false => selV f ks os
  | _, _ => []

def kO (k : PK) : Bool := !(k.io || k.m.plain)
def kP (k : PK) : Bool := !k.io && k.m.plain

theorem argsO_run {d : Option Nat} : ∀ (ks : List PK) (os : List Operand) {G : Nat → Prop} {F : Nat → List Res} {H : List (TV × Value)} {env : Env} {K : List TV → Env → Option ρ},
    RelX B G F H env ts w → Cur env c → gOf c = true → (argsO c ks os).run c d env K = some r →
    ∃ us G' F' env', K us env' = some r ∧ (∀ b, G b → G' b) ∧ RelX B G' F' (H ++ us.zip ((selV kO ks os).map fun a => evalO ts a.2)) env' ts w ∧ env'.length = env.length ∧ Kept c env env' ∧
      us.map (·.m) = (selV kO ks os).map (·.1.m) ∧ ks.length = os.length
  | [], [], G, F, H, env, K, R, _, _, h => by
    simp only [argsO, Rd.run_pure] at h
    exact ⟨[], G, F, env, h, fun _ h => h, by simpa [selV] using R, rfl, Kept.refl _ _, rfl, rfl⟩
  | k :: ks, o :: os, G, F, H, env, K, R, hc, hg, h => by
    unfold argsO at h
    split at h
    · rename_i hk
      obtain ⟨us, G', F', env', h1, h2, h3, h4, h5, h6, h7⟩ := argsO_run ks os R hc hg h
      have hk' : kO k = false := by simp [kO, hk]
      exact ⟨us, G', F', env', h1, h2, by simpa [selV, hk'] using h3, h4, h5, by simpa [selV, hk'] using h6, by simp [h7]⟩
    · rename_i hk
      have hk' : kO k = true := by simp [kO, hk]
      simp only [Rd.run_bind'] at h
      obtain ⟨sl, h, ho⟩ := opnd_run R hc hg h
      obtain ⟨u, F1, env1, h, R1, hl1, hce⟩ := take_run R ho h
      simp only [coe, Rd.run_bind'] at h
      obtain ⟨hck, h⟩ := Rd.run_check hg h
      simp only [Rd.run_pure] at h
      obtain ⟨G2, F2, hG2, R2⟩ := R1.coe hck
      have hc1 := hc.moved hce
      obtain ⟨us, G', F', env', h1, h2, h3, h4, h5, h6, h7⟩ := argsO_run ks os R2 hc1 hg h
      refine ⟨_, G', F', env', h1, fun b hb => h2 b (hG2 b hb), ?_, h4.trans hl1, ?_, ?_, by simp [h7]⟩
      · simpa [selV, hk'] using h3
      · exact hce.trans h5
      · simp [selV, hk', h6]
  | [], _ :: _, _, _, _, _, _, _, _, _, h => by simp [argsO] at h
  | _ :: _, [], _, _, _, _, _, _, _, _, h => by simp [argsO] at h

theorem vrel_G {G G' : Nat → Prop} {w : World} {t : Ty} {m : Md} {x : t.den} {v : Value} {f : List Res} (hG : ∀ b, G b → G' b) (h : vrel G w t m x v f) : vrel G' w t m x v f :=
  vrel_frame (X := fun _ _ => False) (Same.refl _ w) hG (fun _ _ h => h.elim) (fun _ _ _ h => h) h

theorem tupRel_G {G G' : Nat → Prop} {w : World} {es : List TV} {vs : List Value} {f : List Res} (hG : ∀ b, G b → G' b) (h : tupRel G w es vs f) : tupRel G' w es vs f :=
  tupRel_frame (X := fun _ _ => False) (Same.refl _ w) hG (fun _ _ h => h.elim) _ _ _ (fun _ _ _ h => h) h

theorem argsP_run {d : Option Nat} {fr : Bool} : ∀ (ks : List PK) (os : List Operand) {G : Nat → Prop} {F : Nat → List Res} {env : Env} {K : List TV × List Nat → Env → Option ρ},
    RelX B G F H env ts w → Cur env c → gOf c = true → (argsP c fr ks os).run c d env K = some r →
    ∃ vs rts G' F' env', K (vs, rts) env' = some r ∧ (∀ b, G b → G' b) ∧ RelX B G' F' H env' ts w ∧ env'.length = env.length ∧ Kept c env env' ∧
      tupRel (fun b => G' b ∨ ∃ q ∈ rts, q < env'.length ∧ blks (F' q) b) w vs ((selV kP ks os).map fun a => evalO ts a.2) [] ∧ (∀ v ∈ vs, v.m = .s) ∧ (fr = true → rts = []) ∧ (fr = false → env' = env ∧ G' = G ∧ F' = F)
  | [], [], G, F, env, K, R, _, _, h => by
    simp only [argsP, Rd.run_pure] at h
    exact ⟨[], [], G, F, env, h, fun _ h => h, R, rfl, Kept.refl _ _, rfl, by simp, fun _ => rfl, fun _ => ⟨rfl, rfl, rfl⟩⟩
  | k :: ks, o :: os, G, F, env, K, R, hc, hg, h => by
    unfold argsP at h
    split at h
    · rename_i hk
      obtain ⟨vs, rts, G', F', env', h1, h2, h3, h4, h5, h6, h7⟩ := argsP_run ks os R hc hg h
      have hk' : kP k = false := hk
      exact ⟨vs, rts, G', F', env', h1, h2, h3, h4, h5, by simpa [selV, hk'] using h6, h7⟩
    · rename_i hk
      have hk' : kP k = true := hk
      simp only [Rd.run_bind'] at h
      obtain ⟨sl, h, ho⟩ := opnd_run R hc hg h
      obtain ⟨u, f, h, hv, hf⟩ := peek_run R ho h
      split at h
      · simp only [Rd.run_bind'] at h
        obtain ⟨hcn, t, x, G1, F1, env1, h, hG1, R1, hl1, hv1⟩ := share_run R ho h
        have hc1 : Cur env1 c := by rw [hcn]; exact Cur.nil
        obtain ⟨vs, rts, G', F', env', h1, h2, h3, h4, h5, h6, h7, h8, h9⟩ := argsP_run ks os R1 hc1 hg h
        simp only [Rd.run_pure] at h1
        refine ⟨_, _, G', F', env', h1, fun b hb => h2 b (hG1 b hb), h3, h4.trans hl1, .inl hcn, ?_, ?_, h8, (fun h => by cases h)⟩
        · simp only [selV, hk', List.map_cons]
          exact ⟨[], [], vrel_G (fun b hb => .inl (h2 b hb)) hv1, h6, rfl⟩
        · intro v hv
          rcases List.mem_cons.1 hv with rfl | hv
          · rfl
          · exact h7 v hv
      · rename_i fr pl0 x1 hno _ _
        rw [Rd.run_bind'] at h
        obtain ⟨hfz, h⟩ := Rd.run_guard h
        simp only [Rd.run_bind'] at h
        obtain ⟨vs, rts, G', F', env', h1, h2, h3, h4, h5, h6, h7, h8, h9⟩ := argsP_run ks os R hc hg h
        simp only [Rd.run_pure] at h1
        have hlent : u.m.plain = false → fr = false := fun hp => by
          cases hfr : fr with
          | false => rfl
          | true => exact (hno hp hfr).elim
        have hhead : vrel (fun b => G' b ∨ blks f b) w u.t .s u.x (evalO ts o) [] :=
          ⟨rep_share (fun b hb => .inl (h2 b hb)) _ _ _ _ _ hfz (fun z hz => .inr ⟨z, hz, rfl⟩) hv.1, hv.2⟩
        have hfq : u.m.plain = true → f = [] := fun hp => by
          have hm := plain_md hp
          have hr := hv.1
          rw [hm] at hr
          exact rep_s_fp _ _ _ _ hr
        refine ⟨_, _, G', F', env', h1, h2, h3, h4, h5, ?_, ?_, ?_, h9⟩
        · simp only [selV, hk', List.map_cons]
          refine ⟨[], [], vrel_G ?_ hhead, tupRel_G ?_ h6, rfl⟩
          · rintro b (hb | hb)
            · exact .inl hb
            · cases hp : u.m.plain with
              | true => rw [hfq hp] at hb; obtain ⟨z, hz, _⟩ := hb; simp at hz
              | false =>
                obtain ⟨_, _, hFF⟩ := h9 (hlent hp)
                rw [hFF]
                rcases hf with hf | ⟨q, hq, hql, hfq⟩
                · rw [hf] at hb; obtain ⟨z, hz, _⟩ := hb; simp at hz
                · obtain ⟨z, hz, hzb⟩ := hb
                  refine .inr ⟨q, ?_, by rw [h4]; exact hql, z, hfq z hz, hzb⟩
                  rcases hq with ⟨ep, wc, p, he⟩ | ⟨⟨t, m, x, he⟩, hs⟩
                  · simp [he]
                  · simp [he, hs]
          · rintro b (hb | ⟨q, hq, hb⟩)
            · exact .inl hb
            · refine .inr ⟨q, ?_, hb⟩
              split
              · exact hq
              · simp [hq]
              · simp [hq]
        · intro v hv
          rcases List.mem_cons.1 hv with rfl | hv
          · rfl
          · exact h7 v hv
        · intro hfr
          have hr := h8 hfr
          cases hp : u.m.plain with
          | true => simp only [hr]
          | false => rw [hlent hp] at hfr; cases hfr
  | [], _ :: _, _, _, _, _, _, _, _, h => by simp [argsP] at h
  | _ :: _, [], _, _, _, _, _, _, _, h => by simp [argsP] at h

end
end Go.VL

namespace Go.VL

structure IOD where
  r : Nat
  b : Nat
  o : Nat
  f : List Res
  pre : List Res
  post : List Res
  f2 : List Res
  z : List Res
  c1 : List Value
  u : TV

section
variable {P : Program} {C : Ctx} {B : Base} {G : Nat → Prop} {F : Nat → List Res} {H : List (TV × Value)} {env : Env} {ts : List Value} {w : World}
variable {ρ : Type} {c : List GI} {r : ρ}

/-- a place handed to a call by pointer: k its kind, val the pointer, v what lies there for the call, v' what the call leaves, e the root's entry afterwards -/
structure IOk (G : Nat → Prop) (F : Nat → List Res) (env : Env) (ts : List Value) (w : World) (a : PK × Operand) (v v' : TV) (e : Entry) (d : IOD) : Prop where
  lt : d.r < env.length
  val_eq : evalO ts a.2 = .pointer (some ⟨d.b, d.o, none⟩)
  v_eq : v = ⟨d.u.t, a.1.m, d.u.x⟩
  fp : F d.r = d.pre ++ (d.f ++ d.post)
  cells : cellsAt w ⟨d.b, d.o, none⟩ d.c1
  rep1 : rep (fun b => G b ∨ blks d.z b) w d.u.t a.1.m d.u.x d.c1 d.f2
  sub2 : d.f2.Sublist d.f
  subz : d.z.Sublist d.f
  apz : Apart d.f2 d.z
  span : spanOk w d.b (d.o + d.u.t.sz)
  inn : ∃ r ∈ d.pre ++ d.post, r.blk = d.b ∧ r.lo ≤ d.o ∧ d.o + d.u.t.sz ≤ r.hi
  ty : v'.t = d.u.t
  back : ∃ t m x m2 x2, (env.get d.r).e = .val t m x ∧ e = .val t m2 x2 ∧
    ∀ (G' : Nat → Prop) (X : Nat → Nat → Prop) w' c1' f', (∀ b, G b → G' b) → Same X w w' → (∀ b' i, X b' i → ¬ G b') →
      (∀ b' i, X b' i → cut d.b d.o d.u.t.sz d.f b' i ∨ ¬ blks (F d.r) b') → cellsAt w' ⟨d.b, d.o, none⟩ c1' → rep G' w' v'.t v'.m v'.x c1' f' → vrel G' w' t m2 x2 (ts.getD d.r undef) (d.pre ++ (f' ++ d.post))

def IOpre (G : Nat → Prop) (env : Env) (ts : List Value) (w : World) : List (PK × Operand) → List TV → List (Nat × Nat × List Step) → Prop
  | [], [], [] => True
  | a :: as, v :: ws, pl :: pls => (∃ t m x u, (env.get pl.1).e = .val t m x ∧ (env.get pl.1).ep = pl.2.1 ∧ getP pl.2.2 t m x = some u ∧ coeOk u.t u.m a.1.m u.x = true ∧ v = ⟨u.t, a.1.m, u.x⟩ ∧
      slotRel G w env ts (.addr pl.1 pl.2.1 pl.2.2) (evalO ts a.2) []) ∧ IOpre G env ts w as ws pls
  | _, _, _ => False

def IOpost (env : Env) : List (Nat × Nat × List Step) → List TV → List Entry → Prop
  | [], [], [] => True
  | pl :: pls, v' :: vs, e :: es => (∃ t m x n, (env.get pl.1).e = .val t m x ∧ setP pl.2.2 t m x v' = some n ∧ e = .val t n.1 n.2) ∧ IOpost env pls vs es
  | _, _, _ => False

def IOall (G : Nat → Prop) (F : Nat → List Res) (env : Env) (ts : List Value) (w : World) : List (PK × Operand) → List TV → List TV → List Entry → List IOD → Prop
  | [], [], [], [], [] => True
  | a :: as, v :: ws, v' :: vs, e :: es, d :: ds => IOk G F env ts w a v v' e d ∧ IOall G F env ts w as ws vs es ds
  | _, _, _, _, _ => False

def putAll : Env → List Nat → List Entry → Env
  | env, q :: qs, e :: es => putAll (env.put ⟨q, true, e⟩) qs es
  | env, _, _ => env

theorem argsIO_run {d : Option Nat} (R : RelX B G F H env ts w) (hc : Cur env c) (hg : gOf c = true) : ∀ (ks : List PK) (os : List Operand) {K : List TV × List (Nat × Nat × List Step) → Env → Option ρ},
    (argsIO c ks os).run c d env K = some r → ∃ ws pls, K (ws, pls) env = some r ∧ IOpre G env ts w (selV (·.io) ks os) ws pls
  | [], [], K, h => by
    simp only [argsIO, Rd.run_pure] at h
    exact ⟨[], [], h, trivial⟩
  | k :: ks, o :: os, K, h => by
    unfold argsIO at h
    split at h
    · rename_i hk
      obtain ⟨ws, pls, h1, h2⟩ := argsIO_run R hc hg ks os h
      exact ⟨ws, pls, h1, by simpa [selV, hk] using h2⟩
    · rename_i hk
      simp only [Rd.run_bind'] at h
      obtain ⟨sl, h, ho⟩ := opnd_run R hc hg h
      obtain ⟨q, ep, p, h, hrel⟩ := asPlace_run hg R ho h
      obtain ⟨t, m, x, u, h1, h2, hu, h⟩ := place_run h
      obtain ⟨hco, h⟩ := coe_run hg h
      obtain ⟨ws, pls, h3, h4⟩ := argsIO_run R hc hg ks os h
      simp only [Rd.run_pure] at h3
      refine ⟨_, _, h3, ?_⟩
      simp only [selV, hk]
      exact ⟨⟨t, m, x, u, h1, h2, hu, hco, rfl, hrel⟩, h4⟩
  | [], _ :: _, _, h => by simp [argsIO] at h
  | _ :: _, [], _, h => by simp [argsIO] at h

theorem backs_run {d : Option Nat} {K : Unit → Env → Option ρ} : ∀ (pls : List (Nat × Nat × List Step)) (vs : List TV) {env : Env}, (pls.map (·.1)).Nodup →
    (backs pls vs).run c d env K = some r → ∃ es, K () (putAll env (pls.map (·.1)) es) = some r ∧ IOpost env pls vs es ∧ (pls = [] ∨ c = [])
  | [], [], env, _, h => by
    simp only [backs, Rd.run_pure] at h
    exact ⟨[], h, trivial, .inl rfl⟩
  | pl :: pls, v :: vs, env, hnd, h => by
    simp only [backs, putPlace, Rd.run_bind'] at h
    obtain ⟨t, m, x, h1, h2, h⟩ := root_run h
    obtain ⟨n, hset, h⟩ := Rd.run_opt h
    obtain ⟨hcn, h⟩ := Rd.run_move (by simp) h
    simp only [Bool.true_or] at h
    have hnd' := List.nodup_cons.1 hnd
    obtain ⟨es, h3, h4, _⟩ := backs_run pls vs hnd'.2 h
    refine ⟨.val t n.1 n.2 :: es, h3, ⟨⟨t, m, x, n, h1, hset, rfl⟩, ?_⟩, .inr hcn⟩
    have key : ∀ (pls : List (Nat × Nat × List Step)) (vs : List TV) (es : List Entry), pl.1 ∉ pls.map (·.1) → IOpost (env.put ⟨pl.1, true, .val t n.1 n.2⟩) pls vs es → IOpost env pls vs es := by
      intro pls
      induction pls with
      | nil => intro vs es _ h; cases vs <;> cases es <;> exact h
      | cons a pls ih =>
        intro vs es hm h
        cases vs <;> cases es <;> try exact h.elim
        obtain ⟨⟨t', m', x', n', k1, k2, k3⟩, k4⟩ := h
        simp only [List.map_cons, List.mem_cons, not_or] at hm
        rw [Env.get_put_other env ⟨pl.1, true, .val t n.1 n.2⟩ (Ne.symm hm.1)] at k1
        exact ⟨⟨t', m', x', n', k1, k2, k3⟩, ih _ _ hm.2 k4⟩
    exact key pls vs es hnd'.1 h4
  | [], _ :: _, _, _, h => by simp [backs] at h
  | _ :: _, [], _, _, h => by simp [backs] at h

theorem ioAll (R : RelX B G F H env ts w) : ∀ (as : List (PK × Operand)) (ws : List TV) (pls : List (Nat × Nat × List Step)) (vs : List TV) (es : List Entry), IOpre G env ts w as ws pls → IOpost env pls vs es →
    ∃ ds : List IOD, IOall G F env ts w as ws vs es ds ∧ ds.map (·.r) = pls.map (·.1)
  | [], [], [], [], [], _, _ => ⟨[], trivial, rfl⟩
  | a :: as, v :: ws, pl :: pls, v' :: vs, e :: es, h, k => by
    obtain ⟨⟨t, m, x, u, h1, h2, hu, hco, hv, hrel⟩, h⟩ := h
    obtain ⟨⟨t', m', x', n, k1, hset, rfl⟩, k⟩ := k
    rw [h1] at k1
    cases k1
    obtain ⟨ds, hds, hmap⟩ := ioAll R as ws pls vs es h k
    obtain ⟨_, _, hrel⟩ := hrel
    obtain ⟨t0, m0, x0, u0, ad, g1, g2, hw, hval⟩ := hrel h2
    rw [h1] at g1
    cases g1
    rw [hu] at g2
    cases g2
    obtain ⟨hlt, hroot⟩ := R.rootVal h1
    have hty := getP_setP_ty _ _ _ _ _ _ _ hu hset
    obtain ⟨b, o', c1, f, pre, post, rfl, hc1, hr1, hF, hsp, hin, hupd⟩ := lensX pl.2.2 t m x _ _ u v' ad n hroot.1 (R.nd pl.1) (fun r hr => (R.ok pl.1 r hr).1) hu hw hty hset
    have nd := R.nd pl.1
    rw [hF] at nd
    have ndf := (ND.append.1 (ND.append.1 nd).2.1).1
    obtain ⟨f2, z, hf2, hz, hfz, hrep⟩ := rep_coe _ _ _ _ _ _ hco ndf hr1
    refine ⟨⟨pl.1, b, o', f, pre, post, f2, z, c1, u⟩ :: ds, ⟨?_, hds⟩, by simp [hmap]⟩
    exact { lt := hlt, val_eq := hval, v_eq := hv, fp := hF, cells := hc1, rep1 := hrep, sub2 := hf2, subz := hz, apz := hfz, span := hsp, inn := hin, ty := hty,
            back := ⟨t, m, x, n.1, n.2, h1, rfl, fun G' X w' c1' f' hG hs hXG hXc hc hr => ⟨hupd G' X w' c1' f' hG hs hXG hXc hc hr, hroot.2⟩⟩ }
  | [], [], [], _ :: _, _, _, h | [], [], [], [], _ :: _, _, h => h.elim
  | [], _ :: _, _, _, _, h, _ | [], [], _ :: _, _, _, h, _ | _ :: _, [], _, _, _, h, _ | _ :: _, _ :: _, [], _, _, h, _ => h.elim
  | _ :: _, _ :: _, _ :: _, [], _, _, h | _ :: _, _ :: _, _ :: _, _ :: _, [], _, h => h.elim

def ptrTV (v : TV) : TV := ⟨.ptr v.t, .o v.m, some v.x⟩
def ioFp (d : IOD) : List Res := ⟨d.b, d.o, d.o + d.u.t.sz⟩ :: d.f2
def zG (G : Nat → Prop) (ds : List IOD) : Nat → Prop := fun b => G b ∨ ∃ d ∈ ds, blks d.z b

theorem ptr_vrel {G : Nat → Prop} {w : World} {t : Ty} {m : Md} {x : t.den} {b o : Nat} {cs : List Value} {f : List Res} (hsp : spanOk w b (o + t.sz)) (hc : cellsAt w ⟨b, o, none⟩ cs) (hr : rep G w t m x cs f) :
    vrel G w (.ptr t) (.o m) (some x) (.pointer (some ⟨b, o, none⟩)) (⟨b, o, o + t.sz⟩ :: f) := by
  refine ⟨?_, by simp [pack, unpack, Ty.agg]⟩
  simp only [unpack, Ty.agg, if_false, Bool.false_eq_true]
  exact ⟨x, b, o, cs, f, rfl, rfl, rfl, hsp, hc, hr⟩

theorem io_tup : ∀ (as : List (PK × Operand)) (ws vs : List TV) (es : List Entry) (ds : List IOD) (G' : Nat → Prop), (∀ b, G b → G' b) → (∀ d ∈ ds, ∀ b, blks d.z b → G' b) → IOall G F env ts w as ws vs es ds →
    tupRel G' w (ws.map ptrTV) (as.map fun a => evalO ts a.2) (ds.flatMap ioFp)
  | [], [], [], [], [], _, _, _, _ => rfl
  | a :: as, v :: ws, v' :: vs, e :: es, d :: ds, G', h1, h2, h => by
    obtain ⟨hd, h⟩ := h
    refine ⟨ioFp d, ds.flatMap ioFp, ?_, io_tup as ws vs es ds G' h1 (fun d hd => h2 d (by simp [hd])) h, by simp⟩
    rw [hd.v_eq]
    show vrel G' w _ _ _ (evalO ts a.2) (ioFp d)
    rw [hd.val_eq]
    refine vrel_G ?_ (ptr_vrel hd.span hd.cells hd.rep1)
    rintro b (hb | hb)
    · exact h1 b hb
    · exact h2 d (by simp) b hb
  | [], _ :: _, _, _, _, _, _, _, h | _ :: _, [], _, _, _, _, _, _, h => h.elim
  | [], [], _ :: _, _, _, _, _, _, h | [], [], [], _ :: _, _, _, _, _, h | [], [], [], [], _ :: _, _, _, _, h => h.elim
  | _ :: _, _ :: _, [], _, _, _, _, _, h | _ :: _, _ :: _, _ :: _, [], _, _, _, _, h | _ :: _, _ :: _, _ :: _, _ :: _, [], _, _, _, h => h.elim

theorem IOall.mem : ∀ (as : List (PK × Operand)) (ws vs : List TV) (es : List Entry) (ds : List IOD), IOall G F env ts w as ws vs es ds → ∀ d ∈ ds, ∃ a v v' e, IOk G F env ts w a v v' e d
  | [], [], [], [], [], _, d, hd => by simp at hd
  | a :: as, v :: ws, v' :: vs, e :: es, d' :: ds, h, d, hd => by
    rcases List.mem_cons.1 hd with rfl | hd
    · exact ⟨a, v, v', e, h.1⟩
    · exact IOall.mem as ws vs es ds h.2 d hd
  | [], _ :: _, _, _, _, h, _, _ | _ :: _, [], _, _, _, h, _, _ => h.elim
  | [], [], _ :: _, _, _, h, _, _ | [], [], [], _ :: _, _, h, _, _ | [], [], [], [], _ :: _, h, _, _ => h.elim
  | _ :: _, _ :: _, [], _, _, h, _, _ | _ :: _, _ :: _, _ :: _, [], _, h, _, _ | _ :: _, _ :: _, _ :: _, _ :: _, [], h, _, _ => h.elim

theorem IOk.mem {a : PK × Operand} {v v' : TV} {e : Entry} {d : IOD} (h : IOk G F env ts w a v v' e d) {z : Res} (hz : z ∈ ioFp d) : ∃ q ∈ F d.r, q.blk = z.blk ∧ q.lo ≤ z.lo ∧ z.hi ≤ q.hi := by
  rcases List.mem_cons.1 hz with rfl | hz
  · obtain ⟨q, hq, h1, h2, h3⟩ := h.inn
    exact ⟨q, by rw [h.fp]; simp at hq ⊢; rcases hq with h | h <;> simp [h], h1, h2, h3⟩
  · exact ⟨z, by rw [h.fp]; simp [h.sub2.subset hz], rfl, Nat.le_refl _, Nat.le_refl _⟩

theorem IOk.nd (R : RelX B G F H env ts w) {a : PK × Operand} {v v' : TV} {e : Entry} {d : IOD} (h : IOk G F env ts w a v v' e d) : ND (ioFp d) ∧ ∀ z ∈ d.f, z.blk ≠ d.b := by
  have nd := R.nd d.r
  rw [h.fp] at nd
  obtain ⟨n1, n2, n3⟩ := ND.append.1 nd
  obtain ⟨n4, n5, n6⟩ := ND.append.1 n2
  have key : ∀ z ∈ d.f, z.blk ≠ d.b := by
    intro z hz
    obtain ⟨q, hq, h1, _⟩ := h.inn
    rw [← h1]
    rcases List.mem_append.1 hq with hq | hq
    · exact (n3 q hq z (by simp [hz])).symm
    · exact n6 z hz q hq
  exact ⟨List.pairwise_cons.2 ⟨fun z hz => (key z (h.sub2.subset hz)).symm, n4.sub h.sub2⟩, key⟩

theorem io_nd (R : RelX B G F H env ts w) : ∀ (ds : List IOD), (∀ d ∈ ds, ∃ a v v' e, IOk G F env ts w a v v' e d) → (ds.map (·.r)).Nodup → ND (ds.flatMap ioFp)
  | [], _, _ => List.Pairwise.nil
  | d :: ds, h, hn => by
    simp only [List.map_cons] at hn
    obtain ⟨h1, h2⟩ := List.nodup_cons.1 hn
    rw [List.flatMap_cons]
    obtain ⟨a, v, v', e, hd⟩ := h d (by simp)
    refine ND.append.2 ⟨(hd.nd R).1, io_nd R ds (fun d hd => h d (by simp [hd])) h2, fun x hx y hy => ?_⟩
    obtain ⟨d', hd', hy⟩ := List.mem_flatMap.1 hy
    obtain ⟨_, _, _, _, hk'⟩ := h d' (by simp [hd'])
    obtain ⟨q, hq, e1, _⟩ := hd.mem hx
    obtain ⟨q', hq', e2, _⟩ := hk'.mem hy
    rw [← e1, ← e2]
    refine R.ap d.r d'.r (fun he => h1 ?_) q hq q' hq'
    exact List.mem_map.2 ⟨d', hd', he.symm⟩

end
end Go.VL

namespace Go.VL
section
variable {P : Program} {C : Ctx} {B : Base} {G : Nat → Prop} {F : Nat → List Res} {H : List (TV × Value)} {env : Env} {ts : List Value} {w : World}
variable {ρ : Type} {c : List GI} {r : ρ}

/-- a call turns the world: slots whose roots it was handed are out of use meanwhile -/
theorem RelX.callWorld (R : RelX B G F H env ts w) {G' : Nat → Prop} {F' : Nat → List Res} {X : Nat → Nat → Prop} {w' : World}
    (hF : ∀ i, (F' i).Sublist (F i)) (hslot : ∀ i, i < env.length → (env.get i).e ≠ .undef → F' i = F i) (hout : ∀ i, env.length ≤ i → F' i = [])
    (hGG : ∀ b, G b → G' b) (hGn : ∀ b, G' b → ∀ j, ¬ blks (F' j) b) (hgl : ∀ b, G' b → b < w'.heap.size ∧ (B.G0 b ∨ B.w0.heap.size ≤ b ∨ blks B.R0 b))
    (hs : Turn X w w') (hG : ∀ b i, X b i → ¬ G b) (hXF : ∀ b i, X b i → ∀ j, j < env.length → (env.get j).e ≠ .undef → ¬ blks (F j) b)
    (hX : ∀ b i, b < B.w0.heap.size → X b i → B.X0 b i) : RelX B G' F' [] env ts w' := by
  refine { len := R.len, slot := fun i hi => ?_, held := fun k h hk => by simp at hk, out := fun i hi => hout i (by simpa using hi), nd := fun i => (R.nd i).sub (hF i),
           ap := fun i j hij r hr q hq => R.ap i j hij r ((hF i).subset hr) q ((hF j).subset hq),
           ok := fun i q hq => ⟨fun hg => hGn _ hg i ⟨q, hq, rfl⟩, Nat.lt_of_lt_of_le (R.ok i q ((hF i).subset hq)).2.1 hs.size, (R.ok i q ((hF i).subset hq)).2.2⟩,
           g0 := fun b hb => hGG b (R.g0 b hb), gl := hgl, turn := R.turn.trans hs (fun _ _ _ h => h) hX, chain := R.chain, lent := R.lent }
  have hroot : ∀ q t m x, (env.get q).e = .val t m x → q < env.length ∧ ∀ b i, X b i → ¬ blks (F q) b := fun q t m x h =>
    ⟨(R.rootVal h).1, fun b i hx => hXF b i hx q (R.rootVal h).1 (by rw [h]; simp)⟩
  have key : ∀ (e : Entry) (v : Value) (f : List Res), (∀ q ∈ f, ∀ i, ¬ X q.blk i) → slotRel G w env ts e v f → slotRel G' w' env ts e v f := by
    intro e
    induction e with
    | undef => intro v f _ h; exact h
    | val t m x => intro v f hf h; exact vrel_frame hs.toSame hGG hG hf h
    | addr r ep p =>
      rintro v f _ ⟨h1, h2, h3⟩
      refine ⟨h1, h2, fun he => ?_⟩
      obtain ⟨t, m, x, u, ad, hr, hu, hw, hv⟩ := h3 he
      obtain ⟨_, hrep⟩ := R.rootVal hr
      obtain ⟨_, _, _, _, _, _, hst⟩ := readV p t m x _ _ u ad hrep.1 hu hw
      exact ⟨t, m, x, u, ad, hr, hu, hst X w' hs.toSame (fun b i h => ⟨hG b i h, (hroot _ _ _ _ hr).2 b i h⟩), hv⟩
    | pref r ep wc p =>
      rintro v f _ ⟨h1, h2, h2', h3⟩
      refine ⟨h1, h2, h2', fun he => ?_⟩
      obtain ⟨t, m, x, u, hr, hu, hc⟩ := h3 he
      refine ⟨t, m, x, u, hr, hu, fun ha => ?_⟩
      obtain ⟨c, hv, hl, hp | ⟨ad, hw, hcc⟩⟩ := hc ha
      · exact ⟨c, hv, hl, .inl hp⟩
      · obtain ⟨_, hrep⟩ := R.rootVal hr
        obtain ⟨c1, f, hc1, hr1, _, hb, hst⟩ := readV p t m x _ _ u ad hrep.1 hu hw
        refine ⟨c, hv, hl, .inr ⟨ad, hst X w' hs.toSame (fun b i h => ⟨hG b i h, (hroot _ _ _ _ hr).2 b i h⟩), hs.toSame.cellsAt hcc (fun j _ hx => ?_)⟩⟩
        rcases hb with hb | hb
        · exact hG _ _ hx hb
        · exact (hroot _ _ _ _ hr).2 _ _ hx hb
    | ref t x => rintro v f _ ⟨h1, ad, cs, h2, h3, h4, h5⟩; exact ⟨h1, ad, cs, h2, hGG _ h3, hs.toSame.cellsAt h4 (fun j _ hx => hG _ _ hx h3), rep_frame hs.toSame hGG hG _ _ _ _ _ (fun _ h => by simp at h) h5⟩
    | nq neg e => intro v f _ h; exact h
    | tup es => rintro v f hf ⟨vs, rfl, h⟩; exact ⟨vs, rfl, tupRel_frame hs.toSame hGG hG _ _ _ hf h⟩
    | g c e ih =>
      intro v f hf h
      unfold slotRel at h ⊢
      split at h
      · exact ih v f hf h
      · exact h
  by_cases hu : (env.get i).e = .undef
  · rw [hu]; trivial
  · rw [hslot i hi hu]
    exact key _ _ _ (fun q hq j hx => hXF _ _ hx i hi hu ⟨q, hq, rfl⟩) (R.slot i hi)

/-- a slot that was out of use is in use again -/
theorem RelX.fill (R : RelX B G F [] env ts w) {d : Nat} {t : Ty} {m : Md} {x : t.den} {f : List Res} (hd : d < env.length) (hu : (env.get d).e = .undef)
    (hrel : vrel G w t m x (ts.getD d undef) f) (nd : ND f) (ap : ∀ j, j ≠ d → Apart f (F j))
    (ok : ∀ r ∈ f, ¬ G r.blk ∧ r.blk < w.heap.size ∧ (B.w0.heap.size ≤ r.blk ∨ ∃ q ∈ B.R0, q.blk = r.blk ∧ q.lo ≤ r.lo ∧ r.hi ≤ q.hi))
    (hl : ∀ l ∈ B.lents, l.1 = d → ∀ t' m' x', (Entry.val t m x : Entry) = .val (.ptr t') m' x' → ts.getD d undef = .pointer (some ⟨l.2.1, l.2.2, none⟩)) :
    RelX B G (upd F d f) [] (env.set d ⟨(env.get d).ep, (env.get d).wc, .val t m x⟩) ts w := by
  let env' : Env := env.set d ⟨(env.get d).ep, (env.get d).wc, .val t m x⟩
  have hsame : env'.get d = ⟨(env.get d).ep, (env.get d).wc, .val t m x⟩ := by simp [env', Env.get, List.getD, hd]
  have hother : ∀ i, i ≠ d → env'.get i = env.get i := fun i h => by simp [env', Env.get, List.getD, List.getElem?_set_ne (Ne.symm h)]
  have hep : ∀ i, (env'.get i).ep = (env.get i).ep := fun i => by
    by_cases h : i = d
    · subst h; rw [hsame]
    · rw [hother i h]
  have hwc : ∀ i, (env'.get i).wc = (env.get i).wc := fun i => by
    by_cases h : i = d
    · subst h; rw [hsame]
    · rw [hother i h]
  have hlen : env'.length = env.length := by simp [env']
  have key : ∀ (e : Entry) (v : Value) (f : List Res), slotRel G w env ts e v f → slotRel G w env' ts e v f := by
    intro e
    induction e with
    | undef => intro v f h; exact h
    | val t m x => intro v f h; exact h
    | addr r ep p =>
      rintro v f ⟨h1, h2, h3⟩
      refine ⟨h1, by rw [hep]; exact h2, fun he => ?_⟩
      rw [hep] at he
      obtain ⟨t', m', x', u, ad, hr, hu', hw, hv⟩ := h3 he
      by_cases h : r = d
      · subst h; rw [hu] at hr; cases hr
      · exact ⟨t', m', x', u, ad, by rw [hother r h]; exact hr, hu', hw, hv⟩
    | pref r ep wc p =>
      rintro v f ⟨h1, h2, h2', h3⟩
      refine ⟨h1, by rw [hep]; exact h2, by rw [hwc]; exact h2', fun he => ?_⟩
      rw [hep] at he
      obtain ⟨t', m', x', u, hr, hu', hc⟩ := h3 he
      by_cases h : r = d
      · subst h; rw [hu] at hr; cases hr
      · exact ⟨t', m', x', u, by rw [hother r h]; exact hr, hu', by rw [hwc]; exact hc⟩
    | tup es => intro v f h; exact h
    | ref t x => intro v f h; exact h
    | nq neg e => intro v f h; exact h
    | g c e ih =>
      intro v f h
      unfold slotRel at h ⊢
      split at h
      · exact ih v f h
      · exact h
  refine { len := hlen.trans R.len, slot := fun i hi => ?_, held := fun k h hk => by simp at hk, out := fun i hi => ?_, nd := fun i => ?_, ap := fun i j hij => ?_, ok := fun i q hq => ?_,
           g0 := R.g0, gl := R.gl, turn := R.turn, chain := fun i g e' hi => ?_, lent := fun l hl' t' m' x' he => ?_ }
  · by_cases h : i = d
    · subst h
      show slotRel G w env' ts (env'.get i).e _ _
      rw [hsame, upd_same]
      exact hrel
    · show slotRel G w env' ts (env'.get i).e _ _
      rw [hother i h, upd_other F f h]
      exact key _ _ _ (R.slot i (hlen ▸ hi))
  · have hi' : env.length ≤ i := by simpa [hlen, env'] using hi
    rw [upd_other F f (by omega)]
    exact R.out i (by simpa using hi')
  · unfold upd; split
    · exact nd
    · exact R.nd i
  · unfold upd
    split <;> split
    · omega
    · rename_i h1 h2; exact ap j h2
    · rename_i h1 h2; exact fun r hr q hq => (ap i h1 q hq r hr).symm
    · exact R.ap i j hij
  · unfold upd at hq
    split at hq
    · exact ok q hq
    · exact R.ok i q hq
  · have hi' : (env.get i).e = .g g e' := by
      by_cases h : i = d
      · subst h
        have : (env'.get i).e = .g g e' := hi
        rw [hsame] at this; cases this
      · have : (env'.get i).e = .g g e' := hi
        rw [hother i h] at this; exact this
    intro a ha
    obtain ⟨h1, h2⟩ := R.chain i g e' hi' a ha
    show a.ep ≤ (env'.get a.slot).ep ∧ ((env'.get a.slot).ep = a.ep → gval (env'.get a.slot).e = some a.v)
    rw [hep]
    refine ⟨h1, fun h3 => ?_⟩
    have h4 := h2 h3
    by_cases h : a.slot = d
    · rw [h, hu] at h4; cases h4
    · rw [hother _ h]; exact h4
  · have he' : (env'.get l.1).e = .val (.ptr t') m' x' := he
    by_cases h : l.1 = d
    · rw [h] at he' ⊢
      rw [hsame] at he'
      exact hl l hl' h t' m' x' he'
    · rw [hother _ h] at he'
      exact R.lent l hl' t' m' x' he'

/-- something new is put into its slot -/
theorem set_new {d : Nat} {e : Entry} {v : Value} {f : List Res} {K : Unit → Env → Option ρ} (R : RelX B G F [] env ts w) (hc : Cur env c) (hg : gOf c = true) (hl : ∀ l ∈ B.lents, l.1 ≠ d)
    (hrel : slotRel G w env ts e v f) (hne : ∀ g e', e ≠ .g g e') (nd : ND f) (ap : ∀ j, Apart f (F j))
    (ok : ∀ r ∈ f, ¬ G r.blk ∧ r.blk < w.heap.size ∧ (B.w0.heap.size ≤ r.blk ∨ ∃ q ∈ B.R0, q.blk = r.blk ∧ q.lo ≤ r.lo ∧ r.hi ≤ q.hi))
    (h : (Rd.set d true e).run c (some d) env K = some r) : ∃ F' env', K () env' = some r ∧ RelX B G F' [] env' (ts.set d v) w ∧ env'.length = env.length := by
  have hch : ∀ a ∈ c, a.ep ≤ (env.get a.slot).ep ∧ ((env.get a.slot).ep = a.ep → gval (env.get a.slot).e = some a.v) := fun a ha => by
    obtain ⟨h1, h2⟩ := hc a ha
    exact ⟨by omega, fun _ => h2⟩
  by_cases hd : d < env.length
  · rcases Rd.run_set h with ⟨rfl, h⟩ | ⟨_, _, h⟩
    · exact ⟨_, _, h, R.setSlot hd (slotRel_put hd _ _ _ hrel) nd (fun j _ => ap j) ok (fun g e' he => absurd he (hne g e')) (fun l hl' he => absurd he (hl l hl')), Env.length_put _ _⟩
    · refine ⟨_, _, h, R.setSlot hd ?_ nd (fun j _ => ap j) ok (fun g e' he => ?_) (fun l hl' he => absurd he (hl l hl')), Env.length_put _ _⟩
      · simp only [slotRel, hg]; exact slotRel_put hd _ _ _ hrel
      · cases he; exact hch
  · have e1 : ∀ e, env.put ⟨d, true, e⟩ = env := fun e => by simp [Env.put, List.set_eq_of_length_le (Nat.le_of_not_lt hd)]
    have e2 : ts.set d v = ts := List.set_eq_of_length_le (by rw [← R.len]; exact Nat.le_of_not_lt hd)
    rw [e2]
    rcases Rd.run_set h with ⟨_, h⟩ | ⟨_, _, h⟩ <;> rw [e1] at h <;> exact ⟨_, _, h, R, rfl⟩

/-! ### Roots out of use, and back -/
def putU : Env → List Nat → Env
  | env, q :: qs => putU (env.put ⟨q, true, .undef⟩) qs
  | env, [] => env

theorem putU_len : ∀ (qs : List Nat) (env : Env), (putU env qs).length = env.length
  | [], _ => rfl
  | q :: qs, env => by simp only [putU]; rw [putU_len qs, Env.length_put]

theorem putU_other : ∀ (qs : List Nat) (env : Env) (i : Nat), i ∉ qs → (putU env qs).get i = env.get i
  | [], _, _, _ => rfl
  | q :: qs, env, i, h => by
    simp only [List.mem_cons, not_or] at h
    simp only [putU]
    rw [putU_other qs _ i h.2, Env.get_put_other env ⟨q, true, .undef⟩ h.1]

theorem putU_undef : ∀ (qs : List Nat) (env : Env) (i : Nat), i ∈ qs → i < env.length → ((putU env qs).get i).e = .undef
  | q :: qs, env, i, h, hl => by
    simp only [putU]
    by_cases hi : i ∈ qs
    · exact putU_undef qs _ i hi (by rw [Env.length_put]; exact hl)
    · rw [putU_other qs _ i hi]
      rcases List.mem_cons.1 h with rfl | h
      · rw [Env.get_put' env i true _ hl]
      · exact absurd h hi

theorem RelX.out_of_use : ∀ (qs : List Nat) {env : Env}, RelX B G F H env ts w → (∀ q ∈ qs, q < env.length) → RelX B G F H (putU env qs) ts w
  | [], _, R, _ => R
  | q :: qs, env, R, h => by
    have R1 := R.setSlot (d := q) (e := .undef) (c := ts.getD q undef) (f := F q) (h q (by simp)) trivial (R.nd q) (fun j hj => R.ap q j (Ne.symm hj)) (fun r hr => R.ok q r hr) (fun _ _ h => by cases h) (fun _ _ _ _ _ _ h => by cases h)
    rw [set_getD_self] at R1
    have e : upd F q (F q) = F := by
      funext j
      unfold upd
      split
      · rename_i h; rw [h]
      · rfl
    rw [e] at R1
    exact RelX.out_of_use qs R1 (fun q' hq' => by rw [Env.length_put]; exact h q' (by simp [hq']))

theorem putU_set : ∀ (qs : List Nat) (env : Env) (q : Nat) (s : Sl), q ∉ qs → (putU env qs).set q s = putU (env.set q s) qs
  | [], _, _, _, _ => rfl
  | a :: qs, env, q, s, h => by
    simp only [List.mem_cons, not_or] at h
    simp only [putU]
    rw [putU_set qs _ q s h.2]
    congr 1
    simp only [Env.put]
    have : Env.get (List.set env q s) a = env.get a := by simp [Env.get, List.getD, List.getElem?_set_ne h.1]
    rw [this]
    exact List.set_comm _ _ (Ne.symm h.1)

theorem put_put (env : Env) (q : Nat) (e : Entry) (h : q < env.length) : (env.put ⟨q, true, .undef⟩).set q ⟨((env.put ⟨q, true, .undef⟩).get q).ep, ((env.put ⟨q, true, .undef⟩).get q).wc, e⟩ = env.put ⟨q, true, e⟩ := by
  rw [Env.get_put' env q true _ h]
  simp [Env.put, Up.on]

end
end Go.VL

namespace Go.VL

def resV : List Value → Value
  | [v] => v
  | vs => .tuple vs.toArray

def argTVs : List PK → List TV → List TV
  | k :: ks, v :: vs => (match k.io with | true => ptrTV v | false => v) :: argTVs ks vs
  | _, _ => []

def ioVals : List PK → List Value → List Value
  | k :: ks, v :: vs => match k.io with | true => v :: ioVals ks vs | false => ioVals ks vs
  | _, _ => []

def cellsOf (R : List Res) : Nat → Nat → Prop := fun b i => ∃ z ∈ R, z.blk = b ∧ z.lo ≤ i ∧ i < z.hi

/-- a call has come back -/
def RetOk (n : Nat) (G : Nat → Prop) (w : World) (R : List Res) (iov : List Value) (rs : List TV) (v : Value) (w' : World) : Prop :=
  ∃ G' rv fr fi, (∀ b, G b → G' b) ∧ (∀ b, G' b → b < w'.heap.size ∧ (G b ∨ w.heap.size ≤ b ∨ blks R b)) ∧ Turn (cellsOf R) w w' ∧ v = resV rv ∧
    tupRel G' w' (rs.take n) rv fr ∧ tupRel G' w' ((rs.drop n).map ptrTV) iov fi ∧ ND (fr ++ fi) ∧
    ∀ z ∈ fr ++ fi, ¬ G' z.blk ∧ z.blk < w'.heap.size ∧ (w.heap.size ≤ z.blk ∨ ∃ q ∈ R, q.blk = z.blk ∧ q.lo ≤ z.lo ∧ z.hi ≤ q.hi)

/-- the program's function f does what te says -/
def CallOk (P : Program) (f : Nat) (te : TE) : Prop :=
  (∃ fn, P.funcs[f]? = some fn ∧ fn.body.isNone = false ∧ (fn.name == "runtime.NumGoroutine") = false) ∧
  ∀ (w : World) (G : Nat → Prop) (as : List TV) (s : te.sig.S) (vs : List Value) (R : List Res) (q : te.sig.R), decAll (te.sig.ps.map (·.t)) as = some s → as.map (·.m) = te.sig.ps.map (·.m) →
    tupRel G w (argTVs te.sig.ps as) vs R → ND R → (∀ z ∈ R, ¬ G z.blk ∧ z.blk < w.heap.size) → (∀ b, G b → b < w.heap.size) → te.F s = some q →
    Calls P f vs.toArray w fun e w' => ∃ v, e = .returned v ∧ RetOk te.sig.rs.length G w R (ioVals te.sig.ps vs) (encAll te.sig.outs q) v w'

section
variable {P : Program} {C : Ctx} {B : Base} {G : Nat → Prop} {F : Nat → List Res} {H : List (TV × Value)} {env : Env} {ts : List Value} {w : World}
variable {ρ : Type} {c : List GI} {r : ρ}

theorem ND.perm {f g : List Res} (h : f.Perm g) : ND f ↔ ND g := by
  unfold ND
  exact h.pairwise_iff fun h => Ne.symm h

def flatF (F : Nat → List Res) : Nat → Nat → List Res
  | 0, _ => []
  | k + 1, n => F n ++ flatF F k (n + 1)

theorem mem_flatF {F : Nat → List Res} {z : Res} : ∀ (k n : Nat), z ∈ flatF F k n → ∃ j, n ≤ j ∧ z ∈ F j
  | 0, _, h => by simp [flatF] at h
  | k + 1, n, h => by
    rcases List.mem_append.1 h with h | h
    · exact ⟨n, Nat.le_refl _, h⟩
    · obtain ⟨j, h1, h2⟩ := mem_flatF k (n + 1) h
      exact ⟨j, by omega, h2⟩

theorem flatF_nd (nd : ∀ i, ND (F i)) (ap : ∀ i j, i ≠ j → Apart (F i) (F j)) : ∀ (k n : Nat), ND (flatF F k n)
  | 0, _ => List.Pairwise.nil
  | k + 1, n => ND.append.2 ⟨nd n, flatF_nd nd ap k (n + 1), fun x hx y hy => by
      obtain ⟨j, h1, h2⟩ := mem_flatF k (n + 1) hy
      exact ap n j (by omega) x hx y h2⟩

theorem held_tup : ∀ (H : List (TV × Value)) (n : Nat), (∀ k h, H[k]? = some h → vrel G w h.1.t h.1.m h.1.x h.2 (F (n + k))) → tupRel G w (H.map (·.1)) (H.map (·.2)) (flatF F H.length n)
  | [], _, _ => rfl
  | h :: H, n, hh => ⟨F n, flatF F H.length (n + 1), hh 0 h rfl, held_tup H (n + 1) (fun k h' hk => by
      have := hh (k + 1) h' hk
      rwa [show n + (k + 1) = n + 1 + k by omega] at this), rfl⟩

theorem merge_rel {GA : Nat → Prop} : ∀ (ks : List PK) (os : List Operand) (us vs ws : List TV) (fo fi : List Res), tupRel GA w us ((selV kO ks os).map fun a => evalO ts a.2) fo →
    tupRel GA w vs ((selV kP ks os).map fun a => evalO ts a.2) [] → tupRel GA w (ws.map ptrTV) ((selV (·.io) ks os).map fun a => evalO ts a.2) fi → us.map (·.m) = (selV kO ks os).map (·.1.m) → (∀ v ∈ vs, v.m = .s) →
    ws.map (·.m) = (selV (·.io) ks os).map (·.1.m) → ks.length = os.length →
    ∃ f, tupRel GA w (argTVs ks (merge ks us vs ws)) (os.map (evalO ts)) f ∧ f.Perm (fo ++ fi) ∧ (merge ks us vs ws).map (·.m) = ks.map (·.m) ∧ ioVals ks (os.map (evalO ts)) = (selV (·.io) ks os).map fun a => evalO ts a.2
  | [], [], us, vs, ws, fo, fi, h1, h2, h3, _, _, _, _ => by
    cases us with
    | cons _ _ => exact h1.elim
    | nil =>
      cases ws with
      | cons _ _ => exact h3.elim
      | nil =>
        have e1 : fo = [] := h1
        have e2 : fi = [] := h3
        subst e1 e2
        exact ⟨[], rfl, List.Perm.refl _, rfl, rfl⟩
  | k :: ks, o :: os, us, vs, ws, fo, fi, h1, h2, h3, m1, m2, m3, hl => by
    have hl' : ks.length = os.length := by simpa using hl
    cases hio : k.io with
    | true =>
      have e1 : kO k = false := by simp [kO, hio]
      have e2 : kP k = false := by simp [kP, hio]
      simp only [selV, e1, e2, hio] at h1 h2 h3 m1 m3 ⊢
      cases ws with
      | nil => exact h3.elim
      | cons v ws =>
        obtain ⟨f1, f2, hv, h3, rfl⟩ := h3
        simp only [List.map_cons, List.cons.injEq] at m3
        obtain ⟨f, k1, k2, k3, k4⟩ := merge_rel ks os us vs ws fo f2 h1 h2 h3 m1 m2 m3.2 hl'
        refine ⟨f1 ++ f, ?_, ?_, ?_, ?_⟩
        · simp only [merge, hio, argTVs, List.map_cons]
          exact ⟨f1, f, hv, k1, rfl⟩
        · exact (List.Perm.append_left f1 k2).trans (by rw [← List.append_assoc, ← List.append_assoc]; exact List.Perm.append_right _ List.perm_append_comm)
        · simp [merge, hio, k3, m3.1]
        · simp [ioVals, hio, k4]
    | false =>
      cases hm : k.m.plain with
      | true =>
        have e1 : kO k = false := by simp [kO, hm]
        have e2 : kP k = true := by simp [kP, hio, hm]
        simp only [selV, e1, e2, hio] at h1 h2 h3 m1 m3 ⊢
        cases vs with
        | nil => exact h2.elim
        | cons v vs =>
          obtain ⟨f1, f2, hv, h2, he⟩ := h2
          have he' : f1 = [] ∧ f2 = [] := by simpa using he.symm
          obtain ⟨rfl, rfl⟩ := he'
          obtain ⟨f, k1, k2, k3, k4⟩ := merge_rel ks os us vs ws fo fi h1 h2 h3 m1 (fun v hv => m2 v (by simp [hv])) m3 hl'
          refine ⟨f, ?_, k2, ?_, ?_⟩
          · simp only [merge, hio, hm, argTVs, List.map_cons]
            exact ⟨[], f, hv, k1, rfl⟩
          · simp only [merge, hio, hm, List.map_cons, k3]; rw [m2 v (by simp), plain_md hm]
          · simp [ioVals, hio, k4]
      | false =>
        have e1 : kO k = true := by simp [kO, hio, hm]
        have e2 : kP k = false := by simp [kP, hm]
        simp only [selV, e1, e2, hio] at h1 h2 h3 m1 m3 ⊢
        cases us with
        | nil => exact h1.elim
        | cons v us =>
          obtain ⟨f1, f2, hv, h1, rfl⟩ := h1
          simp only [List.map_cons, List.cons.injEq] at m1
          obtain ⟨f, k1, k2, k3, k4⟩ := merge_rel ks os us vs ws f2 fi h1 h2 h3 m1.2 m2 m3 hl'
          refine ⟨f1 ++ f, ?_, ?_, ?_, ?_⟩
          · simp only [merge, hio, hm, argTVs, List.map_cons]
            exact ⟨f1, f, hv, k1, rfl⟩
          · rw [List.append_assoc]; exact List.Perm.append_left f1 k2
          · simp [merge, hio, hm, k3, m1.1]
          · simp [ioVals, hio, k4]
  | [], _ :: _, _, _, _, _, _, _, _, _, _, _, _, hl => by simp at hl
  | _ :: _, [], _, _, _, _, _, _, _, _, _, _, _, hl => by simp at hl

theorem io_marks : ∀ (as : List (PK × Operand)) (ws vs : List TV) (es : List Entry) (ds : List IOD), IOall G F env ts w as ws vs es ds → ws.map (·.m) = as.map (·.1.m)
  | [], [], [], [], [], _ => rfl
  | a :: as, v :: ws, v' :: vs, e :: es, d :: ds, h => by
    simp only [List.map_cons, h.1.v_eq, io_marks as ws vs es ds h.2]
  | [], _ :: _, _, _, _, h | _ :: _, [], _, _, _, h => h.elim
  | [], [], _ :: _, _, _, h | [], [], [], _ :: _, _, h | [], [], [], [], _ :: _, h => h.elim
  | _ :: _, _ :: _, [], _, _, h | _ :: _, _ :: _, _ :: _, [], _, h | _ :: _, _ :: _, _ :: _, _ :: _, [], h => h.elim

/-- the pointers' own cells are among what comes back -/
theorem io_own {G' : Nat → Prop} {w' : World} : ∀ (as : List (PK × Operand)) (ws vs : List TV) (es : List Entry) (ds : List IOD) (fi : List Res), IOall G F env ts w as ws vs es ds →
    tupRel G' w' (vs.map ptrTV) (as.map fun a => evalO ts a.2) fi → ∀ d ∈ ds, ∃ y ∈ fi, y.blk = d.b
  | [], [], [], [], [], _, _, _, d, hd => by simp at hd
  | a :: as, v :: ws, v' :: vs, e :: es, d' :: ds, fi, h, k, d, hd => by
    obtain ⟨f1, f2, hv, k, rfl⟩ := k
    rcases List.mem_cons.1 hd with rfl | hd
    · have hv : vrel G' w' (.ptr v'.t) (.o v'.m) (some v'.x) (evalO ts a.2) f1 := hv
      rw [h.1.val_eq] at hv
      have := hv.1
      simp only [unpack, Ty.agg, if_false, Bool.false_eq_true] at this
      obtain ⟨y, b, o, cc, f, _, he, rfl, _⟩ := this
      simp only [List.cons.injEq, Value.pointer.injEq, Option.some.injEq, Addr.mk.injEq, and_true] at he
      exact ⟨⟨b, o, o + v'.t.sz⟩, by simp, he.1.symm⟩
    · obtain ⟨y, hy, he⟩ := io_own as ws vs es ds f2 h.2 k d hd
      exact ⟨y, by simp [hy], he⟩
  | [], _ :: _, _, _, _, _, h, _, _, _ | _ :: _, [], _, _, _, _, h, _, _, _ => h.elim
  | [], [], _ :: _, _, _, _, h, _, _, _ | [], [], [], _ :: _, _, _, h, _, _, _ | [], [], [], [], _ :: _, _, h, _, _, _ => h.elim
  | _ :: _, _ :: _, [], _, _, _, h, _, _, _ | _ :: _, _ :: _, _ :: _, [], _, _, h, _, _, _ | _ :: _, _ :: _, _ :: _, _ :: _, [], _, h, _, _, _ => h.elim

/-- the roots are in use again -/
theorem refill {G' : Nat → Prop} {w' : World} {X : Nat → Nat → Prop} (hGG : ∀ b, G b → G' b) (hs : Same X w w') (hXG : ∀ b' i, X b' i → ¬ G b')
    (hL : ∀ l ∈ B.lents, ∀ t m x, (env.get l.1).e = .val (.ptr t) m x → ts.getD l.1 undef = .pointer (some ⟨l.2.1, l.2.2, none⟩)) :
    ∀ (as : List (PK × Operand)) (ws vs : List TV) (es : List Entry) (ds : List IOD) {F' : Nat → List Res} {E : Env} (fi : List Res), IOall G F env ts w as ws vs es ds → (ds.map (·.r)).Nodup → E.length = env.length →
    (∀ d ∈ ds, ∀ b' i, X b' i → cut d.b d.o d.u.t.sz d.f b' i ∨ ¬ blks (F d.r) b') → RelX B G' F' [] (putU E (ds.map (·.r))) ts w' → (∀ d ∈ ds, F' d.r = d.pre ++ d.post) →
    tupRel G' w' (vs.map ptrTV) (as.map fun a => evalO ts a.2) fi → ND fi → (∀ z ∈ fi, ∀ j, ∀ q ∈ F' j, q.blk = z.blk → ∃ d ∈ ds, z.blk = d.b) →
    (∀ z ∈ fi, ¬ G' z.blk ∧ z.blk < w'.heap.size ∧ (B.w0.heap.size ≤ z.blk ∨ ∃ q ∈ B.R0, q.blk = z.blk ∧ q.lo ≤ z.lo ∧ z.hi ≤ q.hi)) →
    ∃ F'', RelX B G' F'' [] (putAll E (ds.map (·.r)) es) ts w' ∧ ∀ j, ∀ z ∈ F'' j, z ∈ F' j ∨ z ∈ fi
  | [], [], [], [], [], F', E, fi, _, _, _, _, R, _, _, _, _, _ => ⟨F', R, fun j z hz => .inl hz⟩
  | a :: as, v :: ws, v' :: vs, e :: es, d :: ds, F', E, fi, h, hn, hE, hXc, R, hF', k, nd, hA, ok => by
    obtain ⟨f1, f2, hv, k, rfl⟩ := k
    have hown := io_own as ws vs es ds f2 h.2 k
    simp only [List.map_cons] at hn R ⊢
    obtain ⟨hn1, hn2⟩ := List.nodup_cons.1 hn
    have hd := h.1
    have hv : vrel G' w' (.ptr v'.t) (.o v'.m) (some v'.x) (evalO ts a.2) f1 := hv
    rw [hd.val_eq] at hv
    have hr := hv.1
    simp only [unpack, Ty.agg, if_false, Bool.false_eq_true] at hr
    obtain ⟨y, b, o, cc, f', hy, he, rfl, _, hcc, hrep⟩ := hr
    simp only [List.cons.injEq, Value.pointer.injEq, Option.some.injEq, Addr.mk.injEq, and_true] at he hy
    obtain ⟨rfl, rfl⟩ := he
    subst hy
    obtain ⟨t, m, x, m2, x2, hroot, rfl, hback⟩ := hd.back
    have hnew := hback G' X w' cc f' hGG hs hXG (hXc d (by simp)) hcc hrep
    obtain ⟨n1, n2, n3⟩ := ND.append.1 nd
    have n1' := List.pairwise_cons.1 n1
    have hf'no : ∀ z ∈ f', ∀ d' ∈ d :: ds, z.blk ≠ d'.b := by
      intro z hz d' hd' he
      rcases List.mem_cons.1 hd' with rfl | hd'
      · exact n1'.1 z hz he.symm
      · obtain ⟨y, hy, hyb⟩ := hown d' hd'
        exact n3 z (by simp [hz]) y hy (he.trans hyb.symm)
    have hf'ap : ∀ j, Apart f' (F' j) := fun j z hz q hq he => by
      obtain ⟨d', hd', he'⟩ := hA z (by simp [hz]) j q hq he.symm
      exact hf'no z hz d' hd' he'
    have hFd := hF' d (by simp)
    have ndF := R.nd d.r
    rw [hFd] at ndF
    obtain ⟨p1, p2, p3⟩ := ND.append.1 ndF
    have hsub : ∀ z ∈ d.pre ++ d.post, z ∈ F' d.r := fun z hz => by rw [hFd]; exact hz
    have hmem : ∀ z ∈ d.pre ++ (f' ++ d.post), z ∈ F' d.r ∨ z ∈ f' := fun z hz => by
      rw [hFd]
      simp at hz ⊢
      rcases hz with h | h | h <;> simp [h]
    have hlt : d.r < E.length := by rw [hE]; exact hd.lt
    have R1 := R.fill (d := d.r) (t := t) (m := m2) (x := x2) (f := d.pre ++ (f' ++ d.post)) (by rw [putU_len]; exact hlt) (putU_undef _ _ _ (by simp) hlt) hnew
      (ND.append.2 ⟨p1, ND.append.2 ⟨n1'.2, p2, fun z hz q hq => hf'ap d.r z hz q (hsub q (by simp [hq]))⟩, fun z hz q hq => by
        rcases List.mem_append.1 hq with hq | hq
        · exact (hf'ap d.r q hq z (hsub z (by simp [hz]))).symm
        · exact p3 z hz q hq⟩)
      (fun j hj z hz q hq => by
        rcases hmem z hz with h | h
        · exact R.ap d.r j (Ne.symm hj) z h q hq
        · exact hf'ap j z h q hq)
      (fun z hz => by
        rcases hmem z hz with h | h
        · exact R.ok d.r z h
        · exact ok z (by simp [h]))
      (fun l hl hlr t' m' x' he => by
        cases he
        have := hL l hl t' m x (by rw [hlr]; exact hroot)
        rw [hlr] at this
        exact this)
    simp only [putU] at R1
    rw [putU_other _ _ _ hn1, putU_set _ _ _ _ hn1, put_put E d.r _ hlt] at R1
    obtain ⟨F'', R2, hF''⟩ := refill hGG hs hXG hL as ws vs es ds f2 h.2 hn2 (by rw [Env.length_put]; exact hE) (fun d' hd' => hXc d' (by simp [hd'])) R1
      (fun d' hd' => by
        rw [upd_other F' _ (fun he => hn1 (List.mem_map.2 ⟨d', hd', he⟩))]
        exact hF' d' (by simp [hd'])) k n2
      (fun z hz j q hq he => by
        have hz1 : ∀ y ∈ (⟨d.b, d.o, d.o + v'.t.sz⟩ : Res) :: f', z.blk ≠ y.blk := fun y hy => (n3 y hy z hz).symm
        have hq' : q ∈ F' j ∨ q ∈ F' d.r ∨ q ∈ f' := by
          unfold upd at hq
          split at hq
          · exact .inr (hmem q hq)
          · exact .inl hq
        have fin : ∀ j', q ∈ F' j' → ∃ d' ∈ ds, z.blk = d'.b := fun j' hq => by
          obtain ⟨d', hd', he'⟩ := hA z (by simp [hz]) j' q hq he
          rcases List.mem_cons.1 hd' with rfl | hd'
          · exact absurd he' (hz1 ⟨d'.b, d'.o, d'.o + v'.t.sz⟩ (by simp))
          · exact ⟨d', hd', he'⟩
        rcases hq' with h | h | h
        · exact fin j h
        · exact fin d.r h
        · exact absurd he.symm (hz1 q (by simp [h])))
      (fun z hz => ok z (by simp [hz]))
    refine ⟨F'', R2, fun j z hz => ?_⟩
    rcases hF'' j z hz with h | h
    · unfold upd at h
      split at h
      · rename_i hj
        rcases hmem z h with h | h
        · exact .inl (hj ▸ h)
        · exact .inr (by simp [h])
      · exact .inl h
    · exact .inr (by simp [h])
  | [], _ :: _, _, _, _, _, _, _, h, _, _, _, _, _, _, _, _, _ | _ :: _, [], _, _, _, _, _, _, h, _, _, _, _, _, _, _, _, _ => h.elim
  | [], [], _ :: _, _, _, _, _, _, h, _, _, _, _, _, _, _, _, _ | [], [], [], _ :: _, _, _, _, _, h, _, _, _, _, _, _, _, _, _ | [], [], [], [], _ :: _, _, _, _, h, _, _, _, _, _, _, _, _, _ => h.elim
  | _ :: _, _ :: _, [], _, _, _, _, _, h, _, _, _, _, _, _, _, _, _ | _ :: _, _ :: _, _ :: _, [], _, _, _, _, h, _, _, _, _, _, _, _, _, _ | _ :: _, _ :: _, _ :: _, _ :: _, [], _, _, _, h, _, _, _, _, _, _, _, _, _ => h.elim

end
end Go.VL

namespace Go.VL
section
variable {P : Program} {C : Ctx} {B : Base} {G : Nat → Prop} {F : Nat → List Res} {H : List (TV × Value)} {env : Env} {ts : List Value} {w : World}
variable {ρ : Type} {c : List GI} {r : ρ}

theorem tupRel_noS {G G' : Nat → Prop} {w : World} : ∀ (es : List TV) (vs : List Value) (f : List Res), (∀ e ∈ es, noS e.t e.m = true) → tupRel G w es vs f → tupRel G' w es vs f
  | [], [], _, _, h => h
  | e :: es, v :: vs, f, hn, h => by
    obtain ⟨f1, f2, hv, h, rfl⟩ := h
    exact ⟨f1, f2, ⟨rep_noS _ _ _ _ _ (hn e (by simp)) hv.1, hv.2⟩, tupRel_noS es vs f2 (fun e he => hn e (by simp [he])) h, rfl⟩
  | [], _ :: _, _, _, h => h.elim
  | _ :: _, [], _, _, h => h.elim

theorem encAll_md : ∀ (l : List (Ty × Md)) (x : denAll (l.map (·.1))), ∀ v ∈ encAll l x, ∃ o ∈ l, v.t = o.1 ∧ v.m = o.2
  | [], _, v, h => by simp [encAll] at h
  | (t, m) :: l, x, v, h => by
    simp only [encAll, List.mem_cons] at h
    rcases h with rfl | h
    · exact ⟨(t, m), by simp, rfl, rfl⟩
    · obtain ⟨o, ho, h⟩ := encAll_md l x.2 v h
      exact ⟨o, by simp [ho], h⟩

theorem tupRel_len {G : Nat → Prop} {w : World} : ∀ (es : List TV) (vs : List Value) (f : List Res), tupRel G w es vs f → es.length = vs.length
  | [], [], _, _ => rfl
  | e :: es, v :: vs, f, h => by
    obtain ⟨f1, f2, hv, h, rfl⟩ := h
    simp [tupRel_len es vs f2 h]
  | [], _ :: _, _, h => h.elim
  | _ :: _, [], _, h => h.elim

theorem ds_inj : ∀ (ds : List IOD), (ds.map (·.r)).Nodup → ∀ d ∈ ds, ∀ d' ∈ ds, d.r = d'.r → d = d'
  | [], _, d, hd, _, _, _ => by simp at hd
  | a :: ds, h, d, hd, d', hd', he => by
    simp only [List.map_cons] at h
    obtain ⟨h1, h2⟩ := List.nodup_cons.1 h
    rcases List.mem_cons.1 hd with k | k <;> rcases List.mem_cons.1 hd' with k' | k'
    · rw [k, k']
    · exact absurd (List.mem_map.2 ⟨d', k', by rw [← he, k]⟩) h1
    · exact absurd (List.mem_map.2 ⟨d, k, by rw [he, k']⟩) h1
    · exact ds_inj ds h2 d k d' k' he

theorem putAll_len : ∀ (qs : List Nat) (es : List Entry) (env : Env), (putAll env qs es).length = env.length
  | [], _, _ => by simp [putAll]
  | _ :: _, [], _ => by simp [putAll]
  | q :: qs, e :: es, env => by simp only [putAll]; rw [putAll_len qs es, Env.length_put]

theorem call_fin {d : Option Nat} {tk : List TV} {rv : List Value} {fr : List Res} {v : Value} {K : Unit → Env → Option ρ} (R : RelX B G F [] env ts w) (hc : Cur env c) (hg : gOf c = true)
    (hl : ∀ dd, d = some dd → ∀ l ∈ B.lents, l.1 ≠ dd) (hv : v = resV rv) (ht : tupRel G w tk rv fr) (nd : ND fr) (ap : ∀ j, Apart fr (F j))
    (ok : ∀ z ∈ fr, ¬ G z.blk ∧ z.blk < w.heap.size ∧ (B.w0.heap.size ≤ z.blk ∨ ∃ q ∈ B.R0, q.blk = z.blk ∧ q.lo ≤ z.lo ∧ z.hi ≤ q.hi))
    (h : (match d, tk with
      | none, [] => (pure () : Rd Unit)
      | some d, [] => Rd.set d true .undef
      | some d, [v] => Rd.set d true (.val v.t v.m v.x)
      | some d, vs => Rd.set d true (.tup vs)
      | _, _ => .fail).run c d env K = some r) :
    ∃ G' F' env', K () env' = some r ∧ RelX B G' F' [] env' (setO ts d v) w ∧ env'.length = env.length := by
  have fin : ∀ dd e, d = some dd → slotRel G w env ts e v fr → (∀ g e', e ≠ .g g e') → (Rd.set dd true e).run c d env K = some r →
      ∃ G' F' env', K () env' = some r ∧ RelX B G' F' [] env' (setO ts d v) w ∧ env'.length = env.length := by
    rintro dd e rfl h1 h2 h3
    obtain ⟨F9, env9, h4, h5, h6⟩ := set_new R hc hg (hl dd rfl) h1 h2 nd ap ok h3
    exact ⟨_, F9, env9, h4, h5, h6⟩
  have hlr := tupRel_len _ _ _ ht
  cases d with
  | none =>
    cases tk with
    | nil => exact ⟨G, F, env, h, R, rfl⟩
    | cons _ _ => simp at h
  | some dd =>
    match tk, rv, hlr, ht, hv, h with
    | [], [], _, ht, _, h => exact fin dd .undef rfl trivial (fun _ _ => by simp) h
    | [u], [x], _, ht, hv, h =>
      obtain ⟨f1, f2, hv1, hn, he⟩ := ht
      have hn : f2 = [] := hn
      subst hn
      refine fin dd (.val u.t u.m u.x) rfl ?_ (fun _ _ => by simp) h
      rw [hv]
      have he' : fr = f1 := by simpa using he
      rw [he']
      exact hv1
    | u1 :: u2 :: us, x1 :: x2 :: xs, _, ht, hv, h =>
      refine fin dd (.tup (u1 :: u2 :: us)) rfl ⟨(x1 :: x2 :: xs).toArray, hv, by simpa using ht⟩ (fun _ _ => by simp) h

theorem call_run {f : Nat} {os : List Operand} {d : Option Nat} {K : Unit → Env → Option ρ} (hTab : ∀ f te, C.tab f = some te → CallOk P f te) (R : RelX B G F [] env ts w) (hc : Cur env c) (hg : gOf c = true)
    (hl : ∀ dd, d = some dd → ∀ l ∈ B.lents, l.1 ≠ dd) (h : (callSem C c f os d).run c d env K = some r) :
    (∃ fn, P.funcs[f]? = some fn ∧ fn.body.isNone = false ∧ (fn.name == "runtime.NumGoroutine") = false) ∧
    Calls P f (os.map (evalO ts)).toArray w fun e w' => ∃ v, e = .returned v ∧ ∃ G' F' env', K () env' = some r ∧ RelX B G' F' [] env' (setO ts d v) w' ∧ env'.length = env.length := by
  simp only [callSem, Rd.run_bind'] at h
  obtain ⟨te, hte, h⟩ := Rd.run_opt h
  obtain ⟨hfn, hcall⟩ := hTab f te hte
  obtain ⟨us, G1, F1, env1, h, hG1, R1, hl1, hc1, hm1, hlen⟩ := argsO_run te.sig.ps os R hc hg h
  have hcur1 := hc.moved hc1
  obtain ⟨vs, rts, G3, F3, env3, h, hG3, R3, hl3, hc3, hpl, hvm, hfr1, hfr2⟩ := argsP_run te.sig.ps os R1 hcur1 hg h
  have hcur3 := hcur1.moved hc3
  obtain ⟨ws, pls, h, hpre⟩ := argsIO_run R3 hcur3 hg te.sig.ps os h
  obtain ⟨hgd, h⟩ := Rd.run_guard h
  simp only [Bool.and_eq_true, decide_eq_true_eq, List.all_eq_true, Bool.not_eq_true', List.contains_eq_mem, decide_eq_false_iff_not] at hgd
  obtain ⟨hnd, hlent⟩ := hgd
  simp only [Rd.run, TE.run, hg, cond_true] at h
  split at h
  · cases h
  rename_i s hdec
  obtain ⟨q, hq, h⟩ := Option.bind_eq_some_iff.1 h
  obtain ⟨es, h, hpost, hcp⟩ := backs_run pls _ hnd h
  obtain ⟨ds, hds, hdr⟩ := ioAll R3 _ ws pls _ es hpre hpost
  refine ⟨hfn, ?_⟩
  -- the arguments
  have hdn : (ds.map (·.r)).Nodup := hdr ▸ hnd
  have hIO := hds.mem
  let GL : Nat → Prop := fun b => G3 b ∨ ∃ q ∈ rts, q < env3.length ∧ blks (F3 q) b
  let GA : Nat → Prop := fun b => GL b ∨ ∃ d ∈ ds, blks d.z b
  have hH := held_tup (F := F3) (G := G3) (w := w) ([] ++ us.zip ((selV kO te.sig.ps os).map fun a => evalO ts a.2)) env3.length R3.held
  have hlus : us.length = (selV kO te.sig.ps os).length := by
    have := congrArg List.length hm1
    simpa using this
  simp only [List.nil_append] at hH
  rw [List.map_fst_zip (by simp [hlus]), List.map_snd_zip (by simp [hlus])] at hH
  have hio := io_tup (G := G3) (F := F3) (env := env3) (ts := ts) (w := w) _ ws _ es ds GA (fun b hb => .inl (.inl hb)) (fun d hd b hb => .inr ⟨d, hd, hb⟩) hds
  obtain ⟨RR, hargs, hperm, hmarks, hiov⟩ := merge_rel (GA := GA) te.sig.ps os us vs ws _ _ (tupRel_G (fun b hb => .inl (.inl hb)) hH) (tupRel_G (fun b hb => .inl hb) hpl) hio hm1 hvm (io_marks _ _ _ _ _ hds) hlen
  -- what the call is given lies in slots that are out of use
  have hRmem : ∀ z ∈ RR, (∃ k, env3.length ≤ k ∧ z ∈ F3 k) ∨ ∃ d ∈ ds, z ∈ ioFp d := fun z hz => by
    rcases List.mem_append.1 (hperm.mem_iff.1 hz) with h | h
    · obtain ⟨k, h1, h2⟩ := mem_flatF _ _ h
      exact .inl ⟨k, h1, h2⟩
    · obtain ⟨d, h1, h2⟩ := List.mem_flatMap.1 h
      exact .inr ⟨d, h1, h2⟩
  have hR : ∀ z ∈ RR, ∃ k, (env3.length ≤ k ∨ k ∈ ds.map (·.r)) ∧ ∃ y ∈ F3 k, y.blk = z.blk ∧ y.lo ≤ z.lo ∧ z.hi ≤ y.hi := fun z hz => by
    rcases hRmem z hz with ⟨k, h1, h2⟩ | ⟨d, h1, h2⟩
    · exact ⟨k, .inl h1, z, h2, rfl, Nat.le_refl _, Nat.le_refl _⟩
    · obtain ⟨a, v, v', e, hk⟩ := hIO d h1
      exact ⟨d.r, .inr (List.mem_map.2 ⟨d, h1, rfl⟩), hk.mem h2⟩
  have hdlt : ∀ k ∈ ds.map (·.r), k < env3.length := fun k hk => by
    obtain ⟨d, hd, rfl⟩ := List.mem_map.1 hk
    obtain ⟨_, _, _, _, hk⟩ := hIO d hd
    exact hk.lt
  have hRnd : ND RR := by
    rw [ND.perm hperm]
    refine ND.append.2 ⟨flatF_nd R3.nd R3.ap _ _, io_nd R3 ds hIO hdn, fun x hx y hy => ?_⟩
    obtain ⟨k, h1, h2⟩ := mem_flatF _ _ hx
    obtain ⟨d, hd, hy⟩ := List.mem_flatMap.1 hy
    obtain ⟨_, _, _, _, hk⟩ := hIO d hd
    obtain ⟨y', hy', e, _⟩ := hk.mem hy
    rw [← e]
    have := hk.lt
    exact R3.ap k d.r (by omega) x h2 y' hy'
  have hz : ∀ d ∈ ds, ∀ y ∈ d.z, y ∈ F3 d.r := fun d hd y hy => by
    obtain ⟨_, _, _, _, hk⟩ := hIO d hd
    rw [hk.fp]
    simp [hk.subz.subset hy]
  have hRok : ∀ z ∈ RR, ¬ GA z.blk ∧ z.blk < w.heap.size := fun z hz' => by
    obtain ⟨k, hk, y, hy, e, _⟩ := hR z hz'
    refine ⟨?_, e ▸ (R3.ok k y hy).2.1⟩
    rintro ((h | ⟨q, hq1, hq2, x, hx, e'⟩) | ⟨d, hd, x, hx, e'⟩)
    · exact (R3.ok k y hy).1 (e ▸ h)
    · refine R3.ap q k ?_ x hx y hy (e'.trans e.symm)
      rcases hk with hk | hk
      · omega
      · intro he
        exact hlent k (hdr ▸ hk) (he ▸ hq1)
    · rcases hRmem z hz' with ⟨k, h1, h2⟩ | ⟨d', h1, h2⟩
      · have := hdlt d.r (List.mem_map.2 ⟨d, hd, rfl⟩)
        exact R3.ap d.r k (by omega) x (hz d hd x hx) z h2 e'
      · by_cases hdd : d.r = d'.r
        · have := ds_inj ds hdn d hd d' h1 hdd
          subst this
          obtain ⟨_, _, _, _, hk⟩ := hIO d hd
          rcases List.mem_cons.1 h2 with rfl | h2
          · exact (hk.nd R3).2 x (hk.subz.subset hx) e'
          · exact hk.apz z h2 x hx e'.symm
        · obtain ⟨_, _, _, _, hk⟩ := hIO d' h1
          obtain ⟨y', hy', e2, _⟩ := hk.mem h2
          exact R3.ap d.r d'.r hdd x (hz d hd x hx) y' hy' (e'.trans e2.symm)
  have hGAlt : ∀ b, GA b → b < w.heap.size := by
    rintro b ((h | ⟨q, _, _, x, hx, rfl⟩) | ⟨d, hd, x, hx, rfl⟩)
    · exact (R3.gl b h).1
    · exact (R3.ok q x hx).2.1
    · exact (R3.ok d.r x (hz d hd x hx)).2.1
  refine Calls.mono (hcall w GA _ s _ RR q hdec hmarks hargs hRnd hRok hGAlt hq) ?_
  rintro e w' ⟨v, rfl, G', rv, fr, fi, g1, g2, g3, g4, g5, g6, g7, g8⟩
  refine ⟨v, rfl, ?_⟩
  rw [hiov] at g6
  have hown := io_own _ _ _ _ _ fi hds g6
  -- what is shared behind the call
  obtain ⟨Gf, k1, k2, k3, k4, k5⟩ : ∃ Gf : Nat → Prop, (∀ b, zG G3 ds b → Gf b) ∧ (∀ b, Gf b → G' b) ∧ (∀ b, Gf b → zG G3 ds b ∨ w.heap.size ≤ b ∨ blks RR b) ∧
      tupRel Gf w' ((encAll te.sig.outs q).take te.sig.rs.length) rv fr ∧ tupRel Gf w' (((encAll te.sig.outs q).drop te.sig.rs.length).map ptrTV) ((selV (·.io) te.sig.ps os).map fun a => evalO ts a.2) fi := by
    have hzg : ∀ b, zG G3 ds b → GA b := fun b hb => hb.imp (fun h => .inl h) id
    cases hall : te.sig.outs.all fun o => noS o.1 o.2 with
    | true =>
      rw [List.all_eq_true] at hall
      have hno : ∀ v ∈ encAll te.sig.outs q, noS v.t v.m = true := fun v hv => by
        obtain ⟨o, ho, e1, e2⟩ := encAll_md _ _ v hv
        rw [e1, e2]
        exact hall o ho
      refine ⟨zG G3 ds, fun _ h => h, fun b h => g1 b (hzg b h), fun _ h => .inl h, tupRel_noS _ _ _ (fun v hv => hno v (List.mem_of_mem_take hv)) g5, tupRel_noS _ _ _ (fun v hv => ?_) g6⟩
      obtain ⟨u, hu, rfl⟩ := List.mem_map.1 hv
      exact hno u (List.mem_of_mem_drop hu)
    | false =>
      refine ⟨G', fun b h => g1 b (hzg b h), fun _ h => h, fun b h => ?_, g5, g6⟩
      rcases (g2 b h).2 with ((h | ⟨q, hq, _⟩) | h) | h | h
      · exact .inl (.inl h)
      · rw [hfr1 (by rw [hall]; rfl)] at hq; simp at hq
      · exact .inl (.inr h)
      · exact .inr (.inl h)
      · exact .inr (.inr h)
  let F' : Nat → List Res := fun i => if i < env3.length then (match ds.find? (fun d => d.r == i) with | some d => d.pre ++ d.post | none => F3 i) else []
  have hF'd : ∀ d ∈ ds, F' d.r = d.pre ++ d.post := fun d hd => by
    have hlt := hdlt d.r (List.mem_map.2 ⟨d, hd, rfl⟩)
    simp only [F', hlt, if_true]
    cases hfd : ds.find? (fun d' => d'.r == d.r) with
    | none => exact absurd (List.find?_eq_none.1 hfd d hd) (by simp)
    | some d' =>
      have h1 := List.find?_some hfd
      have h2 := List.mem_of_find?_eq_some hfd
      have : d' = d := ds_inj ds hdn d' h2 d hd (by simpa using h1)
      rw [this]
  have hF'o : ∀ i, i < env3.length → i ∉ ds.map (·.r) → F' i = F3 i := fun i hi hn => by
    simp only [F', hi, if_true]
    cases hfd : ds.find? (fun d' => d'.r == i) with
    | none => rfl
    | some d' =>
      have h1 := List.find?_some hfd
      have h2 := List.mem_of_find?_eq_some hfd
      exact absurd (List.mem_map.2 ⟨d', h2, by simpa using h1⟩) hn
  have hF'n : ∀ i, env3.length ≤ i → F' i = [] := fun i hi => by simp [F', Nat.not_lt.2 hi]
  have hF'sub : ∀ i, (F' i).Sublist (F3 i) := fun i => by
    by_cases hi : i < env3.length
    · by_cases hm : i ∈ ds.map (·.r)
      · obtain ⟨d, hd, rfl⟩ := List.mem_map.1 hm
        obtain ⟨_, _, _, _, hk⟩ := hIO d hd
        rw [hF'd d hd, hk.fp]
        exact List.Sublist.append (List.Sublist.refl _) (List.sublist_append_right _ _)
      · rw [hF'o i hi hm]; exact List.Sublist.refl _
    · rw [hF'n i (by omega)]; exact List.nil_sublist _
  -- a root's rest is apart from what was handed on
  have hrest : ∀ d ∈ ds, ∀ x ∈ d.f, ∀ j, ∀ y ∈ F' j, y.blk ≠ x.blk := fun d hd x hx j y hy => by
    obtain ⟨_, _, _, _, hk⟩ := hIO d hd
    by_cases hj : j = d.r
    · subst hj
      rw [hF'd d hd] at hy
      have nd := R3.nd d.r
      rw [hk.fp] at nd
      obtain ⟨n1, n2, n3⟩ := ND.append.1 nd
      obtain ⟨n4, n5, n6⟩ := ND.append.1 n2
      rcases List.mem_append.1 hy with hy | hy
      · exact n3 y hy x (by simp [hx])
      · exact (n6 x hx y hy).symm
    · exact R3.ap j d.r hj y ((hF'sub j).subset hy) x (by rw [hk.fp]; simp [hx])
  have hjlt : ∀ j, ∀ y ∈ F' j, j < env3.length := fun j y hy => by
    rcases Nat.lt_or_ge j env3.length with h | h
    · exact h
    · rw [hF'n j h] at hy; simp at hy
  have hAp : ∀ z ∈ RR, ∀ j, ∀ y ∈ F' j, y.blk = z.blk → ∃ d ∈ ds, z.blk = d.b := fun z hz' j y hy he => by
    rcases hRmem z hz' with ⟨k, h1, h2⟩ | ⟨d, h1, h2⟩
    · have := hjlt j y hy
      exact absurd he (R3.ap j k (by omega) y ((hF'sub j).subset hy) z h2)
    · obtain ⟨_, _, _, _, hk⟩ := hIO d h1
      rcases List.mem_cons.1 h2 with rfl | h2
      · exact ⟨d, h1, rfl⟩
      · exact absurd he (hrest d h1 z (hk.sub2.subset h2) j y hy)
  have hAp' : ∀ z ∈ fr ++ fi, ∀ j, ∀ y ∈ F' j, y.blk = z.blk → ∃ d ∈ ds, z.blk = d.b := fun z hz' j y hy he => by
    rcases (g8 z hz').2.2 with h | ⟨q, hq, e, _⟩
    · have := (R3.ok j y ((hF'sub j).subset hy)).2.1
      omega
    · obtain ⟨d, hd, e'⟩ := hAp q hq j y hy (he.trans e.symm)
      exact ⟨d, hd, e ▸ e'⟩
  have hres : ∀ z ∈ fr ++ fi, ¬ Gf z.blk ∧ z.blk < w'.heap.size ∧ (B.w0.heap.size ≤ z.blk ∨ ∃ q ∈ B.R0, q.blk = z.blk ∧ q.lo ≤ z.lo ∧ z.hi ≤ q.hi) := fun z hz' => by
    obtain ⟨h1, h2, h3⟩ := g8 z hz'
    refine ⟨fun h => h1 (k2 _ h), h2, ?_⟩
    rcases h3 with h3 | ⟨q, hq, e1, e2, e3⟩
    · exact .inl (Nat.le_trans R3.turn.size h3)
    · obtain ⟨k, _, y, hy, e4, e5, e6⟩ := hR q hq
      rcases (R3.ok k y hy).2.2 with h | ⟨x, hx, e7, e8, e9⟩
      · exact .inl (by omega)
      · exact .inr ⟨x, hx, by omega, by omega, by omega⟩
  have R4 := R3.out_of_use (ds.map (·.r)) hdlt
  have hRG : ∀ b i, cellsOf RR b i → ¬ G3 b := by
    rintro b i ⟨z, hz', rfl, _⟩ h
    exact (hRok z hz').1 (.inl (.inl h))
  have R5 := R4.callWorld (G' := Gf) (F' := F') (X := cellsOf RR) (w' := w') hF'sub
    (fun i hi hu => by
      rw [putU_len] at hi
      exact hF'o i hi (fun hm => hu (putU_undef _ _ _ hm hi)))
    (fun i hi => hF'n i (by rwa [putU_len] at hi)) (fun b hb => k1 b (.inl hb))
    (fun b hb j => by
      rintro ⟨y, hy, rfl⟩
      rcases k3 _ hb with (h | ⟨d, hd, x, hx, e⟩) | h | ⟨z, hz', e⟩
      · exact (R3.ok j y ((hF'sub j).subset hy)).1 h
      · obtain ⟨_, _, _, _, hk⟩ := hIO d hd
        exact hrest d hd x (hk.subz.subset hx) j y hy e.symm
      · have := (R3.ok j y ((hF'sub j).subset hy)).2.1
        omega
      · obtain ⟨d, hd, e'⟩ := hAp z hz' j y hy e.symm
        obtain ⟨y', hy', e2⟩ := hown d hd
        exact (g8 y' (by simp [hy'])).1 (by rw [e2, ← e', e]; exact k2 _ hb))
    (fun b hb => by
      refine ⟨(g2 b (k2 b hb)).1, ?_⟩
      rcases k3 _ hb with (h | ⟨d, hd, x, hx, rfl⟩) | h | ⟨z, hz', rfl⟩
      · exact (R3.gl b h).2
      · exact .inr ((R3.ok d.r x (hz d hd x hx)).2.2.imp id fun ⟨q, hq, e, _⟩ => ⟨q, hq, e⟩)
      · exact .inr (.inl (Nat.le_trans R3.turn.size h))
      · obtain ⟨k, _, y, hy, e4, _⟩ := hR z hz'
        rw [← e4]
        exact .inr ((R3.ok k y hy).2.2.imp id fun ⟨q, hq, e, _⟩ => ⟨q, hq, e⟩))
    g3 hRG
    (fun b i hx j hj hu => by
      rw [putU_len] at hj
      have hjn : j ∉ ds.map (·.r) := fun hm => hu (putU_undef _ _ _ hm hj)
      obtain ⟨z, hz', rfl, _⟩ := hx
      obtain ⟨k, hk, y, hy, e, _⟩ := hR z hz'
      rintro ⟨x, hx, e'⟩
      refine R3.ap j k ?_ x hx y hy (e'.trans e.symm)
      rcases hk with hk | hk
      · omega
      · exact fun he => hjn (he ▸ hk))
    (fun b i hb hx => by
      obtain ⟨z, hz', rfl, h1, h2⟩ := hx
      obtain ⟨k, hk, y, hy, e, e2, e3⟩ := hR z hz'
      rcases (R3.ok k y hy).2.2 with h | ⟨x, hx, e7, e8, e9⟩
      · omega
      · exact ⟨x, hx, by omega, by omega, by omega⟩)
  obtain ⟨g7a, g7b, g7c⟩ := ND.append.1 g7
  obtain ⟨F'', R6, hF''⟩ := refill (G := G3) (F := F3) (env := env3) (fun b hb => k1 b (.inl hb)) g3.toSame hRG R3.lent _ ws _ es ds (F' := F') (E := env3) fi hds hdn rfl
    (fun d hd b' i hx => by
      obtain ⟨z, hz', rfl, h1, h2⟩ := hx
      rcases hRmem z hz' with ⟨k, h3, h4⟩ | ⟨d', h3, h4⟩
      · refine .inr ?_
        rintro ⟨x, hx, e⟩
        have := hdlt d.r (List.mem_map.2 ⟨d, hd, rfl⟩)
        exact R3.ap d.r k (by omega) x hx z h4 e
      · by_cases hdd : d.r = d'.r
        · have := ds_inj ds hdn d hd d' h3 hdd
          subst this
          obtain ⟨_, _, _, _, hk⟩ := hIO d hd
          rcases List.mem_cons.1 h4 with rfl | h4
          · exact .inl (.inl ⟨rfl, h1, h2⟩)
          · exact .inl (.inr ⟨z, hk.sub2.subset h4, rfl⟩)
        · refine .inr ?_
          rintro ⟨x, hx, e⟩
          obtain ⟨_, _, _, _, hk⟩ := hIO d' h3
          obtain ⟨y', hy', e2, _⟩ := hk.mem h4
          exact R3.ap d.r d'.r hdd x hx y' hy' (e.trans e2.symm))
    R5 hF'd k5 g7b (fun z hz' => hAp' z (by simp [hz'])) (fun z hz' => hres z (by simp [hz']))
  rw [hdr] at R6
  have hlenp : (putAll env3 (pls.map (·.1)) es).length = env.length := by rw [putAll_len, hl3, hl1]
  have hcurp : Cur (putAll env3 (pls.map (·.1)) es) c := by
    rcases hcp with h | h
    · subst h; exact hcur3
    · subst h; exact Cur.nil
  have hfrap : ∀ j, Apart fr (F'' j) := fun j z hz' y hy he => by
    rcases hF'' j y hy with h | h
    · obtain ⟨d, hd, e⟩ := hAp' z (by simp [hz']) j y h he.symm
      obtain ⟨y', hy', e2⟩ := hown d hd
      exact g7c z hz' y' hy' (e.trans e2.symm)
    · exact g7c z hz' y h he
  have hfrok := fun z (hz' : z ∈ fr) => hres z (List.mem_append_left _ hz')
  obtain ⟨G9, F9, env9, h4, h5, h6⟩ := call_fin R6 hcurp hg hl g4 k4 g7a hfrap hfrok h
  exact ⟨G9, F9, env9, h4, h5, h6.trans hlenp⟩

end
end Go.VL

namespace Go.VL

/-- an operation has been carried out, or a call has been made and has come back -/
def OpDone {ρ : Type} (P : Program) (B : Base) (env : Env) (ts : List Value) (w : World) (o : Oper) (K : Unit → Env → Option ρ) (r : ρ) : Prop :=
  OpOut P B env ts w o K r ∨ ∃ f args, (execOp (evalO ts) o).run P w = .ok (.enter f args) w ∧
    Calls P f args w fun e w' => ∃ v, e = .returned v ∧ ∃ G' F' env', K () env' = some r ∧ RelX B G' F' [] env' (setO ts o.dst v) w' ∧ env'.length = env.length

section
variable {P : Program} {C : Ctx} {B : Base} {G : Nat → Prop} {F : Nat → List Res} {H : List (TV × Value)} {env : Env} {ts : List Value} {w : World}
variable {ρ : Type} {c : List GI} {r : ρ}

theorem run_enter {ty : TypeId} {pos : String} {after : Array Edge} {gd : Option (Nat × Bool)} {dst : Option Nat} {x : Operand} {as : Array Operand} {Ts : Array TypeId} {f : Nat} (hx : evalO ts x = .func (.func f) #[] #[])
    (hf : ∃ fn, P.funcs[f]? = some fn ∧ fn.body.isNone = false ∧ (fn.name == "runtime.NumGoroutine") = false) :
    (execOp (evalO ts) ⟨dst, .call ⟨.value x, as, Ts⟩, ty, pos, after, gd⟩).run P w = .ok (.enter f (as.toList.map (evalO ts)).toArray) w := by
  obtain ⟨fn, h1, h2, h3⟩ := hf
  have e : (as.toList.map (evalO ts)).toArray = as.map (evalO ts) := by rw [← Array.toList_map, Array.toArray_toList]
  simp only [execOp, resolve, hx, Deferred.ofValue, Sem.run_bind, Sem.run_pure, Result.andThen_ok, invoke, callFunc, e]
  have h3' : fn.name ≠ "runtime.NumGoroutine" := by simpa using h3
  have h2' : fn.body ≠ none := by intro h; rw [h] at h2; cases h2
  simp [program, Sem.run, h1, h2', h3']

theorem fn_val {s : Nat} {sl : Sl} {v : Value} {m : Md} {f : Nat} (ho : OpRel G F env ts w (.tmp s) sl v) (he : sl.e = .val .fn m (some f)) : evalO ts (.tmp s) = .func (.func f) #[] #[] := by
  rcases ho.2 with hu | h
  · rw [he] at hu; cases hu
  · have h := h.2.2.2.2
    rw [he] at h
    have h1 := h.1
    simp only [unpack, Ty.agg, if_false, Bool.false_eq_true, rep, List.cons.injEq, and_true] at h1
    rw [← ho.1]
    exact h1.1

theorem op_sound (hT : TysOk P C) (hE : EqsOk P C) (hTab : ∀ f te, C.tab f = some te → CallOk P f te) {o : Oper} {K : Unit → Env → Option ρ} (R : RelX B G F [] env ts w) (hc : Cur env c) (hg : gOf c = true)
    (hl : ∀ dd, o.dst = some dd → ∀ l ∈ B.lents, l.1 ≠ dd) (h : (opSem C c o).run c o.dst env K = some r) : OpDone P B env ts w o K r := by
  obtain ⟨dst, op, ty, pos, after, gd⟩ := o
  cases dst with
  | none =>
    cases op with
    | store T x y => exact .inl (op_store hT R hc hg h)
    | call cl =>
      obtain ⟨cal, as, Ts⟩ := cl
      cases cal with
      | value x =>
        cases x with
        | func f =>
          simp only [opSem] at h
          obtain ⟨h1, h2⟩ := call_run hTab R hc hg hl h
          exact .inr ⟨f, _, run_enter rfl h1, h2⟩
        | tmp s =>
          simp only [opSem, Rd.run_bind'] at h
          obtain ⟨sl, hk, ho⟩ := opnd_run R hc hg h
          split at hk
          case h_2 => simp at hk
          rename_i m f he
          obtain ⟨h1, h2⟩ := call_run hTab R hc hg hl hk
          exact .inr ⟨f, _, run_enter (fn_val ho he) h1, h2⟩
        | const v => simp [opSem] at h
        | global g => simp [opSem] at h
      | builtin b => cases b <;> simp [opSem] at h
      | invoke a b => simp [opSem] at h
    | _ => exfalso; simp [opSem] at h
  | some d =>
    have hl' := hl d rfl
    cases op with
    | move x => exact .inl (op_move R hc hg hl' h)
    | assign x => exact .inl (op_assign R hc hg hl' h)
    | pick x a b => exact .inl (op_pick R hc hg hl' h)
    | alloc T => exact .inl (op_alloc hT R hc hg hl' h)
    | box T x => exact .inl (op_box R hc hg hl' h)
    | load T x => exact .inl (op_load hT R hc hg hl' h)
    | nilCheck x => exact .inl (op_nilCheck R hc hg hl' h)
    | fieldAddr T x f => exact .inl (op_fieldAddr hT R hc hg hl' h)
    | indexAddr T x i => exact .inl (op_indexAddr hT R hc hg hl' h)
    | binOp op T x y T' => exact .inl (op_binOp hT hE R hc hg hl' h)
    | unOp op T x => exact .inl (op_unOp R hc hg hl' h)
    | convert S T x => exact .inl (op_convert hT R hc hg hl' h)
    | extract x i => exact .inl (op_extract R hc hg hl' h)
    | buildSlice T n ps => exact .inl (op_buildSlice hT R hc hg hl' h)
    | build T ps => exact .inl (op_build hT R hc hg hl' h)
    | slice T x lo hi mx =>
      cases mx with
      | none => exact .inl (op_slice hT R hc hg hl' h)
      | some _ => simp [opSem] at h
    | call cl =>
      obtain ⟨cal, as, Ts⟩ := cl
      cases cal with
      | value x =>
        cases x with
        | func f =>
          simp only [opSem] at h
          obtain ⟨h1, h2⟩ := call_run hTab R hc hg hl h
          exact .inr ⟨f, _, run_enter rfl h1, h2⟩
        | tmp s =>
          simp only [opSem, Rd.run_bind'] at h
          obtain ⟨sl, hk, ho⟩ := opnd_run R hc hg h
          split at hk
          case h_2 => simp at hk
          rename_i m f he
          obtain ⟨h1, h2⟩ := call_run hTab R hc hg hl hk
          exact .inr ⟨f, _, run_enter (fn_val ho he) h1, h2⟩
        | const v => simp [opSem] at h
        | global g => simp [opSem] at h
      | builtin b => 
        cases b with
        | len => exact .inl (op_len hT R hc hg hl' h)
        | append => exact .inl (op_append hT R hc hg hl' h)
        | max => exact .inl (op_max R hc hg hl' h)
        | min => exact .inl (op_min R hc hg hl' h)
        | _ => simp [opSem] at h
      | invoke a b => simp [opSem] at h
    | _ => exfalso; simp [opSem] at h

end
end Go.VL

namespace Go.VL

theorem Env.ext {e f : Env} (hl : e.length = f.length) (h : ∀ i, e.get i = f.get i) : e = f := by
  apply List.ext_getElem hl
  intro i h1 h2
  have := h i
  simpa [Env.get, List.getD, h1, h2] using this

theorem put_toList (a : Act) (d : Option Nat) (v : Value) : (a.put d v).tmps.toList = setO a.tmps.toList d v := by
  cases d <;> simp [Act.put, setO]

theorem put_defers (a : Act) (d : Option Nat) (v : Value) : (a.put d v).defers = a.defers := by
  cases d <;> rfl

/-- slots that are forgotten -/
inductive Fog (c : List GI) (d : Nat) : Env → Env → Prop where
  | refl (e : Env) : Fog c d e e
  | step {e e1 : Env} (s : Nat) (h : s ≠ d) (hc : ∀ a ∈ c, a.slot ≠ s) (f : Fog c d (e.put ⟨s, true, .undef⟩) e1) : Fog c d e e1

theorem Fog.len {c : List GI} {d : Nat} {e e1 : Env} (f : Fog c d e e1) : e1.length = e.length := by
  induction f with
  | refl e => rfl
  | step s h hc f ih => rw [ih, Env.length_put]

theorem Fog.at {c : List GI} {d : Nat} {e e1 : Env} (f : Fog c d e e1) : e1.get d = e.get d := by
  induction f with
  | refl e => rfl
  | step s h hc f ih => rw [ih, Env.get_put_other _ ⟨s, true, .undef⟩ (Ne.symm h)]

/-- the same slots are forgotten of a state that differs in d alone -/
theorem Fog.like {c : List GI} {d : Nat} {e e1 : Env} (f : Fog c d e e1) : ∀ {e0 : Env}, e0.length = e.length → (∀ i, i ≠ d → e.get i = e0.get i) → ∃ e2, Fog c d e0 e2 ∧ e1.length = e2.length ∧ (∀ i, i ≠ d → e1.get i = e2.get i) := by
  induction f with
  | refl e => intro e0 hl h; exact ⟨e0, .refl _, hl.symm, h⟩
  | step s hs hc f ih =>
    rename_i e e1
    intro e0 hl h
    obtain ⟨e2, f2, h2, h3⟩ := ih (e0 := e0.put ⟨s, true, .undef⟩) (by rw [Env.length_put, Env.length_put, hl]) (fun i hi => by
      by_cases his : i = s
      · subst his
        by_cases hlt : i < e.length
        · rw [Env.get_put' e i true .undef hlt, Env.get_put' e0 i true .undef (by omega), h i hi]
        · have k1 : e.put ⟨i, true, .undef⟩ = e := by simp [Env.put, List.set_eq_of_length_le (Nat.le_of_not_lt hlt)]
          have k2 : e0.put ⟨i, true, .undef⟩ = e0 := by simp [Env.put, List.set_eq_of_length_le (by omega : e0.length ≤ i)]
          rw [k1, k2, h i hi]
      · rw [Env.get_put_other e ⟨s, true, .undef⟩ his, Env.get_put_other e0 ⟨s, true, .undef⟩ his, h i hi])
    exact ⟨e2, .step s hs hc f2, h2, h3⟩

/-- a run under a guard turns its own slot alone, and forgets others -/
theorem run_false {α ρ : Type} {c : List GI} {d : Nat} {r : ρ} (hc : c ≠ []) (m : Rd α) : ∀ {env : Env} {K : α → Env → Option ρ}, m.run c (some d) env K = some r →
    ∃ a env' env1, K a env' = some r ∧ Fog c d env env1 ∧ env'.length = env1.length ∧ (∀ i, i ≠ d → env'.get i = env1.get i) ∧ (env' = env1 ∨ ∃ e, (env'.get d).e = .g c e) := by
  induction m with
  | ret a => intro env K h; exact ⟨a, env, env, h, .refl _, rfl, fun _ _ => rfl, .inl rfl⟩
  | get s k ih => intro env K h; exact ih _ h
  | put u k ih =>
    intro env K h
    simp only [Rd.run] at h
    cases hp : gPut c (some d) u with
    | none => simp [hp] at h
    | some u' =>
      simp only [hp] at h
      obtain ⟨a, env', env1, h1, hf, h2, h3, h4⟩ := ih h
      have hu : u'.s = d ∧ u'.e = .g c u.e := by
        unfold gPut at hp
        split at hp
        · exact absurd rfl hc
        · simp only at hp
          split at hp
          · rename_i hs
            simp only [Option.some.injEq] at hp
            subst hp
            exact ⟨by simpa using hs, rfl⟩
          · cases hp
      by_cases hd : d < env.length
      · obtain ⟨env2, f2, k2, k3⟩ := hf.like (e0 := env) (Env.length_put _ _).symm (fun i hi => Env.get_put_other env u' (by rw [hu.1]; exact hi))
        refine ⟨a, env', env2, h1, f2, h2.trans k2, fun i hi => (h3 i hi).trans (k3 i hi), .inr ?_⟩
        rcases h4 with rfl | h4
        · refine ⟨u.e, ?_⟩
          have := Env.get_put_same env u' (by rw [hu.1]; exact hd)
          rw [hu.1] at this
          rw [hf.at, this]
          exact hu.2
        · exact h4
      · have e0 : env.put u' = env := by simp [Env.put, hu.1, List.set_eq_of_length_le (Nat.le_of_not_lt hd)]
        rw [e0] at hf
        exact ⟨a, env', env1, h1, hf, h2, h3, h4⟩
  | mov u k ih =>
    intro env K h
    simp only [Rd.run] at h
    cases hp : mPut c (some d) u with
    | none => simp [hp] at h
    | some u' =>
      simp only [hp] at h
      obtain ⟨rfl, hk⟩ := mPut_some hp
      obtain ⟨_, k1, k2, k3, k4⟩ := hk.resolve_left hc
      obtain ⟨a, env', env1, h1, hf, h2, h3, h4⟩ := ih h
      obtain ⟨s, b, e⟩ := u'
      simp only at k1 k2 k3 k4
      subst k1 k2
      exact ⟨a, env', env1, h1, .step s (k3 d rfl) k4 hf, h2, h3, h4⟩
  | chk b k ih =>
    intro env K h
    simp only [Rd.run] at h
    cases hb : okB c b with
    | false => simp [hb] at h
    | true => simp only [hb, cond_true] at h; exact ih h
  | call t as k ih =>
    intro env K h
    simp only [Rd.run, TE.run] at h
    split at h
    · cases h
    · obtain ⟨q, _, h⟩ := Option.bind_eq_some_iff.1 h
      exact ih _ h
  | fail => intro env K h; simp at h

theorem set_self (ts : List Value) (s : Nat) : ts.set s (ts.getD s undef) = ts := by
  apply List.ext_getElem (by simp)
  intro i h1 h2
  by_cases h : s = i
  · subst h; simp [List.getD, h2]
  · simp [List.getElem_set_ne h]

theorem Fog.rel {c : List GI} {d : Nat} {e e1 : Env} (f : Fog c d e e1) {B : Base} {G : Nat → Prop} {ts : List Value} {w : World} : ∀ {F : Nat → List Res}, RelX B G F [] e ts w → Cur e c → ∃ F1, RelX B G F1 [] e1 ts w ∧ Cur e1 c := by
  induction f with
  | refl e => intro F R hc; exact ⟨F, R, hc⟩
  | step s hs hcs f ih =>
    rename_i e e1
    intro F R hc
    by_cases hl : s < e.length
    · have R1 := R.setSlot (d := s) (e := .undef) (c := ts.getD s undef) (f := []) hl trivial List.Pairwise.nil (fun _ _ r hr => by simp at hr) (fun r hr => by simp at hr) (fun _ _ h => by cases h) (fun _ _ _ _ _ _ h => by cases h)
      rw [set_self] at R1
      exact ih R1 (fun b hb => by rw [Env.get_put_other e ⟨s, true, .undef⟩ (hcs b hb)]; exact hc b hb)
    · have k1 : e.put ⟨s, true, .undef⟩ = e := by simp [Env.put, List.set_eq_of_length_le (Nat.le_of_not_lt hl)]
      rw [k1] at ih
      exact ih R hc

section
variable {P : Program} {C : Ctx} {B : Base} {G : Nat → Prop} {F : Nat → List Res} {env : Env} {w : World} {a : Act}
variable {ρ : Type} {r : ρ} {ops : Array Oper}

theorem current_run {c : List GI} {d : Option Nat} : ∀ (g : List GI) {K : Unit → Env → Option ρ}, (current g).run c d env K = some r → K () env = some r ∧ ∀ a ∈ g, (env.get a.slot).ep = a.ep
  | [], _, h => ⟨h, fun _ h => by simp at h⟩
  | a :: g, K, h => by
    simp only [current, Rd.run_bind', Rd.run_slot] at h
    obtain ⟨h1, h⟩ := Rd.run_guard h
    obtain ⟨h2, h3⟩ := current_run g h
    refine ⟨h2, fun b hb => ?_⟩
    rcases List.mem_cons.1 hb with rfl | hb
    · simpa using h1
    · exact h3 b hb

theorem chainOf_run {o : Oper} {K : List GI → Env → Option ρ} (R : RelX B G F [] env a.tmps.toList w) (h : (chainOf ops o).run [] none env K = some r) :
    ∃ c, K c env = some r ∧ Cur env c ∧ Region.wanted o (yielded ops a.tmps) = gOf c := by
  unfold chainOf at h
  split at h
  · rename_i hg
    exact ⟨[], h, Cur.nil, by simp [Region.wanted, hg, gOf]⟩
  · rename_i j want hg
    split at h
    case h_2 => simp at h
    rename_i s hs
    simp only [Rd.run_bind', Rd.run_slot] at h
    have hy : ∀ v, a.tmps[s]? = some v → yielded ops a.tmps j = match v with | .bool b => some b | _ => none := fun v hv => by
      unfold yielded
      simp only [hs, Option.bind_some, hv]
      cases v <;> rfl
    have hval : ∀ e, (env.get s).e = e → e ≠ .undef → ∃ v, a.tmps[s]? = some v ∧ slotRel G w env a.tmps.toList e v (F s) := fun e he hu => by
      have hlt := Env.get_lt he hu
      have hr := R.slot s hlt
      rw [he] at hr
      have hlt2 : s < a.tmps.size := (R.len.trans Array.length_toList) ▸ hlt
      refine ⟨a.tmps[s], by simp [hlt2], ?_⟩
      have e2 : a.tmps.toList.getD s undef = a.tmps[s] := by simp [List.getD, hlt2]
      rw [e2] at hr
      exact hr
    split at h
    · rename_i m v he
      simp only [Rd.run_pure] at h
      obtain ⟨x, hx, hr⟩ := hval _ he (by simp)
      have h1 := hr.1
      simp only [unpack, Ty.agg, if_false, Bool.false_eq_true, rep, List.cons.injEq, and_true] at h1
      refine ⟨_, h, fun b hb => ?_, ?_⟩
      · simp only [List.mem_cons, List.not_mem_nil, or_false] at hb
        subst hb
        exact ⟨rfl, by simp only [he]; rfl⟩
      · have hyv := hy x hx
        rw [h1.1] at hyv
        simp only [Region.wanted, hg, hyv, gOf, GI.ok]
        cases want <;> cases v <;> rfl
    · rename_i g m v he
      rw [Rd.run_bind'] at h
      obtain ⟨h, hcur⟩ := current_run g h
      simp only [Rd.run_pure] at h
      obtain ⟨x, hx, hr⟩ := hval _ he (by simp)
      refine ⟨_, h, fun b hb => ?_, ?_⟩
      · rcases List.mem_cons.1 hb with rfl | hb
        · exact ⟨rfl, by simp only [he]; rfl⟩
        · have := R.chain s g _ he b hb
          exact ⟨hcur b hb, this.2 (hcur b hb)⟩
      · have hyv := hy x hx
        have hgo : gOf (⟨s, (env.get s).ep, want, v⟩ :: g) = ((⟨s, (env.get s).ep, want, v⟩ : GI).ok && gOf g) := by
          cases g <;> simp [gOf]
        rw [hgo]
        simp only [slotRel] at hr
        split at hr
        · rename_i hgt
          have h1 := hr.1
          simp only [unpack, Ty.agg, if_false, Bool.false_eq_true, rep, List.cons.injEq, and_true] at h1
          rw [h1.1] at hyv
          simp only [Region.wanted, hg, hyv, GI.ok, hgt]
          cases want <;> cases v <;> rfl
        · rename_i hgf
          rw [hr.1] at hyv
          simp only [Region.wanted, hg, hyv, hgf, Bool.and_false]
          rfl
    · simp at h

/-- an operation of a region -/
theorem runOp_sound (hT : TysOk P C) (hE : EqsOk P C) (hTab : ∀ f te, C.tab f = some te → CallOk P f te) {o : Oper} {K : Env → Option ρ} (R : RelX B G F [] env a.tmps.toList w)
    (hl : ∀ dd, o.dst = some dd → ∀ l ∈ B.lents, l.1 ≠ dd) (h : runOp C ops o env K = some r) {next : Act → World → Prop} {Q : Exit → Act → World → Prop}
    (hn : ∀ v w' G' F' env', K env' = some r → RelX B G' F' [] env' (setO a.tmps.toList o.dst v) w' → env'.length = env.length → next (a.put o.dst v) w') :
    if Region.wanted o (yielded ops a.tmps) then o.wp P a w next Q else next (a.put o.dst undef) w := by
  unfold runOp at h
  obtain ⟨c, h, hc, hw⟩ := chainOf_run R h
  have hev : a.eval = evalO a.tmps.toList := funext (eval_eq a)
  have done : ∀ {c : List GI} {K' : Unit → Env → Option ρ}, Cur env c → gOf c = true → (opSem C c o).run c o.dst env K' = some r → (∀ env', K' () env' = some r → K env' = some r) → o.wp P a w next Q := by
    intro c K' hc hg h hK
    unfold Oper.wp
    rw [hev]
    rcases op_sound hT hE hTab R hc hg hl h with ⟨v, w', G', F', env', h1, h2, h3, h4⟩ | ⟨f, args, h1, h2⟩
    · rcases h1 with h1 | ⟨h1, rfl⟩
      · rw [h1, Oper.upon_value]
        exact hn v w' G' F' env' (hK _ h2) h3 h4
      · rw [h1, Oper.upon_skip]
        exact hn undef w' G' F' env' (hK _ h2) h3 h4
    · rw [h1, Oper.upon_enter]
      refine Calls.mono h2 ?_
      rintro e w' ⟨v, rfl, G', F', env', h3, h4, h5⟩
      exact hn v w' G' F' env' (hK _ h3) h4 h5
  split at h
  · rw [hw]
    simp only [gOf, if_true]
    exact done Cur.nil rfl h (fun _ h => h)
  · rename_i b c d hd
    split at h
    case h_2 => cases h
    cases hg : gOf (b :: c) with
    | true =>
      rw [hw, hg]
      simp only [if_true]
      refine done hc hg h (fun env' h => ?_)
      split at h
      · exact h
      · cases h
    | false =>
      rw [hw, hg]
      simp only [Bool.false_eq_true, if_false]
      rw [hd] at h
      obtain ⟨_, env', env0, h, hfog, h2, h3, h4⟩ := run_false (by simp) _ h
      obtain ⟨F, R, hc⟩ := hfog.rel R hc
      have hd0 := hfog.at
      have hl0 := hfog.len
      split at h
      case h_2 => cases h
      rename_i hck
      simp only [Bool.and_eq_true, beq_iff_eq] at hck
      have hdl : d < env0.length := by
        rcases Nat.lt_or_ge d env0.length with h' | h'
        · exact h'
        · have e1 : env'.get d = ⟨0, 0, .undef⟩ := by simp [Env.get, List.getD, List.getElem?_eq_none (by rw [h2]; exact h')]
          have h10 := hck.1
          rw [e1] at h10
          simp at h10
      obtain ⟨e, he⟩ := h4.resolve_left (fun h' => by rw [h', hd0] at hck; omega)
      have henv : env' = env0.put ⟨d, true, .g (b :: c) e⟩ := by
        apply Env.ext
        · rw [h2, Env.length_put]
        · intro i
          by_cases hi : i = d
          · subst hi
            rw [Env.get_put' env0 i true _ hdl]
            obtain ⟨h5, h6⟩ := hck
            rw [← hd0] at h5 h6
            generalize env'.get i = x at he h5 h6
            cases x
            simp only at he h5 h6
            subst he h5 h6
            rfl
          · rw [h3 i hi, Env.get_put_other env0 ⟨d, true, .g (b :: c) e⟩ hi]
      subst henv
      have R' := R.setSlot (d := d) (e := .g (b :: c) e) (c := undef) (f := []) hdl (by simp [slotRel, hg]) List.Pairwise.nil (fun _ _ r hr => by simp at hr) (fun r hr => by simp at hr)
        (fun g e' he a ha => by
          cases he
          obtain ⟨h1, h2⟩ := hc a ha
          exact ⟨by omega, fun _ => h2⟩) (fun _ _ _ _ _ _ h => by cases h)
      exact hn undef w G _ _ h (by rw [hd]; exact R') ((Env.length_put _ _).trans hl0)
  · cases h

/-- the operations of a region, in some order -/
theorem runOps_sound (hT : TysOk P C) (hE : EqsOk P C) (hTab : ∀ f te, C.tab f = some te → CallOk P f te) {Q : Exit → Act → World → Prop} (hl : ∀ o ∈ ops, ∀ dd, o.dst = some dd → ∀ l ∈ B.lents, l.1 ≠ dd) {K : Env → Option ρ} : ∀ (l : List Nat) {G : Nat → Prop} {F : Nat → List Res} {env : Env} {w : World} {a : Act},
    RelX B G F [] env a.tmps.toList w → a.defers = [] → runOps C ops (l.filterMap (ops[·]?)) env K = some r →
    (∀ a' w' G' F' env', K env' = some r → RelX B G' F' [] env' a'.tmps.toList w' → env'.length = env.length → a'.defers = [] → Q .normal a' w') → wpOps P ops Q l a w
  | [], G, F, env, w, a, R, hd, h, hQ => hQ a w G F env h R rfl hd
  | i :: l, G, F, env, w, a, R, hd, h, hQ => by
    rw [wpOps_cons]
    unfold wpOp
    cases ho : ops[i]? with
    | none =>
      simp only [List.filterMap_cons, ho] at h
      exact runOps_sound hT hE hTab hl l R hd h hQ
    | some o =>
      simp only [List.filterMap_cons, ho, runOps] at h
      have := runOp_sound hT hE hTab (a := a) (next := wpOps P ops Q l) (Q := Q) R (hl o (Array.mem_of_getElem? ho)) h (fun v w' G' F' env' h1 h2 h3 =>
        runOps_sound hT hE hTab hl l (by rw [put_toList]; exact h2) (by rw [put_defers]; exact hd) h1 (fun a' w' G' F' env'' k1 k2 k3 k4 => hQ a' w' G' F' env'' k1 k2 (k3.trans h3) k4))
      simp only
      split
      · rename_i hw
        simp only [hw, if_true] at this
        exact .inl this
      · rename_i hw
        simp only [hw] at this
        exact this

theorem range_filterMap {α : Type} : ∀ (l : List α), (List.range l.length).filterMap (l[·]?) = l
  | [] => rfl
  | x :: l => by
    rw [List.length_cons, List.range_succ_eq_map, List.filterMap_cons]
    simp only [List.getElem?_cons_zero, List.filterMap_map]
    congr 1
    exact range_filterMap l

theorem range_ops (ops : Array Oper) : (List.range ops.size).filterMap (ops[·]?) = ops.toList := by
  have := range_filterMap ops.toList
  simpa using this

end
end Go.VL

namespace Go.VL

/-- a run, with what it reads and writes -/
def Rd.tr {α : Type} (c : List GI) (d : Option Nat) : Rd α → Env → Option (α × Env × Nat × Nat)
  | .ret a, env => some (a, env, 0, 0)
  | .get s k, env => ((k (env.get s)).tr c d env).map fun x => (x.1, x.2.1, 2 ^ s ||| x.2.2.1, x.2.2.2)
  | .put u k, env => match gPut c d u with
    | some u => (k.tr c d (env.put u)).map fun x => (x.1, x.2.1, x.2.2.1, 2 ^ u.s ||| x.2.2.2)
    | none => none
  | .mov u k, env => match mPut c d u with
    | some u => (k.tr c d (env.put u)).map fun x => (x.1, x.2.1, x.2.2.1, 2 ^ u.s ||| x.2.2.2)
    | none => none
  | .chk b k, env => bif okB c b then k.tr c d env else none
  | .call t as k, env => t.run (gOf c) as fun r => (k r).tr c d env
  | .fail, _ => none

section
variable {α ρ : Type} {c : List GI} {d : Option Nat} {r : ρ}

theorem runT_tr (m : Rd α) : ∀ {env : Env} {R W : Nat} {K : α → Env → Nat → Nat → Option ρ}, m.runT c d env R W K = some r →
    ∃ a e R' W', m.tr c d env = some (a, e, R', W') ∧ K a e (R ||| R') (W ||| W') = some r := by
  induction m with
  | ret a => intro env R W K h; exact ⟨a, env, 0, 0, rfl, by rw [Nat.or_zero, Nat.or_zero]; exact h⟩
  | get s k ih =>
    intro env R W K h
    obtain ⟨a, e, R', W', h1, h2⟩ := ih _ h
    exact ⟨a, e, 2 ^ s ||| R', W', by simp [Rd.tr, h1], by rwa [← Nat.or_assoc]⟩
  | put u k ih =>
    intro env R W K h
    simp only [Rd.runT] at h
    cases hp : gPut c d u with
    | none => simp [hp] at h
    | some u' =>
      simp only [hp] at h
      obtain ⟨a, e, R', W', h1, h2⟩ := ih h
      exact ⟨a, e, R', 2 ^ u'.s ||| W', by simp [Rd.tr, hp, h1], by rwa [← Nat.or_assoc]⟩
  | mov u k ih =>
    intro env R W K h
    simp only [Rd.runT] at h
    cases hp : mPut c d u with
    | none => simp [hp] at h
    | some u' =>
      simp only [hp] at h
      obtain ⟨a, e, R', W', h1, h2⟩ := ih h
      exact ⟨a, e, R', 2 ^ u'.s ||| W', by simp [Rd.tr, hp, h1], by rwa [← Nat.or_assoc]⟩
  | chk b k ih =>
    intro env R W K h
    simp only [Rd.runT] at h
    cases hb : okB c b with
    | false => simp [hb] at h
    | true =>
      simp only [hb, cond_true] at h
      obtain ⟨a, e, R', W', h1, h2⟩ := ih h
      exact ⟨a, e, R', W', by simp only [Rd.tr, hb, cond_true]; exact h1, h2⟩
  | call t as k ih =>
    intro env R W K h
    simp only [Rd.runT, TE.run] at h
    split at h
    · cases h
    · rename_i s hs
      obtain ⟨q, hq, h⟩ := Option.bind_eq_some_iff.1 h
      obtain ⟨a, e, R', W', h1, h2⟩ := ih _ h
      exact ⟨a, e, R', W', by simp only [Rd.tr, TE.run, hs]; rw [hq]; exact h1, h2⟩
  | fail => intro env R W K h; simp [Rd.runT] at h

theorem run_tr (m : Rd α) : ∀ {env : Env} {a : α} {e : Env} {R W : Nat}, m.tr c d env = some (a, e, R, W) → ∀ (K : α → Env → Option ρ), m.run c d env K = K a e := by
  induction m with
  | ret a => intro env a' e R W h K; simp only [Rd.tr, Option.some.injEq, Prod.mk.injEq] at h; obtain ⟨rfl, rfl, _⟩ := h; rfl
  | get s k ih =>
    intro env a e R W h K
    simp only [Rd.tr, Option.map_eq_some_iff] at h
    obtain ⟨⟨a', e', R', W'⟩, h1, h2⟩ := h
    simp only [Prod.mk.injEq] at h2
    obtain ⟨rfl, rfl, _⟩ := h2
    exact ih _ h1 K
  | put u k ih =>
    intro env a e R W h K
    simp only [Rd.tr] at h
    cases hp : gPut c d u with
    | none => simp [hp] at h
    | some u' =>
      simp only [hp, Option.map_eq_some_iff] at h
      obtain ⟨⟨a', e', R', W'⟩, h1, h2⟩ := h
      simp only [Prod.mk.injEq] at h2
      obtain ⟨rfl, rfl, _⟩ := h2
      simp only [Rd.run, hp]
      exact ih h1 K
  | mov u k ih =>
    intro env a e R W h K
    simp only [Rd.tr] at h
    cases hp : mPut c d u with
    | none => simp [hp] at h
    | some u' =>
      simp only [hp, Option.map_eq_some_iff] at h
      obtain ⟨⟨a', e', R', W'⟩, h1, h2⟩ := h
      simp only [Prod.mk.injEq] at h2
      obtain ⟨rfl, rfl, _⟩ := h2
      simp only [Rd.run, hp]
      exact ih h1 K
  | chk b k ih =>
    intro env a e R W h K
    simp only [Rd.tr] at h
    cases hb : okB c b with
    | false => simp [hb] at h
    | true =>
      simp only [hb, cond_true] at h
      simp only [Rd.run, hb, cond_true]
      exact ih h K
  | call t as k ih =>
    intro env a e R W h K
    simp only [Rd.tr, TE.run] at h
    split at h
    · cases h
    · rename_i s hs
      obtain ⟨q, hq, h⟩ := Option.bind_eq_some_iff.1 h
      simp only [Rd.run, TE.run, hs]
      rw [hq]
      exact ih _ h K
  | fail => intro env a e R W h K; simp [Rd.tr] at h

theorem get_put_any (env : Env) (u : Up) (s : Nat) : (env.put u).get s = if s = u.s ∧ u.s < env.length then u.on (env.get u.s) else env.get s := by
  by_cases h : s = u.s
  · subst h
    by_cases hl : u.s < env.length
    · simp [hl, Env.get_put_same env u hl]
    · simp [hl, Env.put, List.set_eq_of_length_le (Nat.le_of_not_lt hl)]
  · simp [h, Env.get_put_other env u h]

theorem bit_pow (s i : Nat) : (2 ^ s : Nat).testBit i = decide (s = i) := Nat.testBit_two_pow

/-- what is not written stays, and only what is read or written matters -/
theorem tr_keep (m : Rd α) : ∀ {env : Env} {a : α} {e : Env} {R W : Nat}, m.tr c d env = some (a, e, R, W) → e.length = env.length ∧ ∀ s, W.testBit s = false → e.get s = env.get s := by
  induction m with
  | ret a => intro env a' e R W h; simp only [Rd.tr, Option.some.injEq, Prod.mk.injEq] at h; obtain ⟨_, rfl, _⟩ := h; exact ⟨rfl, fun _ _ => rfl⟩
  | get s k ih =>
    intro env a e R W h
    simp only [Rd.tr, Option.map_eq_some_iff] at h
    obtain ⟨⟨a', e', R', W'⟩, h1, h2⟩ := h
    simp only [Prod.mk.injEq] at h2
    obtain ⟨rfl, rfl, rfl, rfl⟩ := h2
    exact ih _ h1
  | put u k ih =>
    intro env a e R W h
    simp only [Rd.tr] at h
    cases hp : gPut c d u with
    | none => simp [hp] at h
    | some u' =>
      simp only [hp, Option.map_eq_some_iff] at h
      obtain ⟨⟨a', e', R', W'⟩, h1, h2⟩ := h
      simp only [Prod.mk.injEq] at h2
      obtain ⟨rfl, rfl, rfl, rfl⟩ := h2
      obtain ⟨h3, h4⟩ := ih h1
      refine ⟨by rw [h3, Env.length_put], fun s hs => ?_⟩
      simp only [Nat.testBit_or, bit_pow, Bool.or_eq_false_iff, decide_eq_false_iff_not] at hs
      rw [h4 s hs.2, Env.get_put_other env u' (Ne.symm hs.1)]
  | mov u k ih =>
    intro env a e R W h
    simp only [Rd.tr] at h
    cases hp : mPut c d u with
    | none => simp [hp] at h
    | some u' =>
      simp only [hp, Option.map_eq_some_iff] at h
      obtain ⟨⟨a', e', R', W'⟩, h1, h2⟩ := h
      simp only [Prod.mk.injEq] at h2
      obtain ⟨rfl, rfl, rfl, rfl⟩ := h2
      obtain ⟨h3, h4⟩ := ih h1
      refine ⟨by rw [h3, Env.length_put], fun s hs => ?_⟩
      simp only [Nat.testBit_or, bit_pow, Bool.or_eq_false_iff, decide_eq_false_iff_not] at hs
      rw [h4 s hs.2, Env.get_put_other env u' (Ne.symm hs.1)]
  | chk b k ih =>
    intro env a e R W h
    simp only [Rd.tr] at h
    cases hb : okB c b with
    | false => simp [hb] at h
    | true => simp only [hb, cond_true] at h; exact ih h
  | call t as k ih =>
    intro env a e R W h
    simp only [Rd.tr, TE.run] at h
    split at h
    · cases h
    · obtain ⟨q, hq, h⟩ := Option.bind_eq_some_iff.1 h
      exact ih _ h
  | fail => intro env a e R W h; simp [Rd.tr] at h

theorem tr_local (m : Rd α) : ∀ {env env2 : Env} {a : α} {e : Env} {R W : Nat}, m.tr c d env = some (a, e, R, W) → env2.length = env.length → (∀ s, R.testBit s = true ∨ W.testBit s = true → env2.get s = env.get s) →
    ∃ e2, m.tr c d env2 = some (a, e2, R, W) ∧ ∀ s, W.testBit s = true → e2.get s = e.get s := by
  induction m with
  | ret a =>
    intro env env2 a' e R W h hl hs
    simp only [Rd.tr, Option.some.injEq, Prod.mk.injEq] at h
    obtain ⟨rfl, rfl, rfl, rfl⟩ := h
    exact ⟨env2, rfl, fun s h => by simp at h⟩
  | get s k ih =>
    intro env env2 a e R W h hl hs
    simp only [Rd.tr, Option.map_eq_some_iff] at h
    obtain ⟨⟨a', e', R', W'⟩, h1, h2⟩ := h
    simp only [Prod.mk.injEq] at h2
    obtain ⟨rfl, rfl, rfl, rfl⟩ := h2
    obtain ⟨e2, h3, h4⟩ := ih _ h1 hl (fun i hi => hs i (by rcases hi with hi | hi <;> simp [Nat.testBit_or, hi]))
    refine ⟨e2, ?_, h4⟩
    simp only [Rd.tr]
    rw [hs s (by simp [Nat.testBit_or]), h3]
    rfl
  | put u k ih =>
    intro env env2 a e R W h hl hs
    simp only [Rd.tr] at h
    cases hp : gPut c d u with
    | none => simp [hp] at h
    | some u' =>
      simp only [hp, Option.map_eq_some_iff] at h
      obtain ⟨⟨a', e', R', W'⟩, h1, h2⟩ := h
      simp only [Prod.mk.injEq] at h2
      obtain ⟨rfl, rfl, rfl, rfl⟩ := h2
      have hu := hs u'.s (by simp [Nat.testBit_or])
      have hput : ∀ i, env2.get i = env.get i → (env2.put u').get i = (env.put u').get i := fun i hi => by
        rw [get_put_any, get_put_any, hl, hi, hu]
      obtain ⟨e2, h3, h4⟩ := ih h1 (env2 := env2.put u') (by rw [Env.length_put, Env.length_put, hl]) (fun i hi => hput i (hs i (by rcases hi with hi | hi <;> simp [Nat.testBit_or, hi])))
      refine ⟨e2, by simp [Rd.tr, hp, h3], fun i hi => ?_⟩
      cases hw : W'.testBit i with
      | true => exact h4 i hw
      | false =>
        simp only [Nat.testBit_or, bit_pow, hw, Bool.or_false, decide_eq_true_eq] at hi
        subst hi
        rw [(tr_keep k h3).2 _ hw, (tr_keep k h1).2 _ hw]
        exact hput _ hu
  | mov u k ih =>
    intro env env2 a e R W h hl hs
    simp only [Rd.tr] at h
    cases hp : mPut c d u with
    | none => simp [hp] at h
    | some u' =>
      simp only [hp, Option.map_eq_some_iff] at h
      obtain ⟨⟨a', e', R', W'⟩, h1, h2⟩ := h
      simp only [Prod.mk.injEq] at h2
      obtain ⟨rfl, rfl, rfl, rfl⟩ := h2
      have hu := hs u'.s (by simp [Nat.testBit_or])
      have hput : ∀ i, env2.get i = env.get i → (env2.put u').get i = (env.put u').get i := fun i hi => by
        rw [get_put_any, get_put_any, hl, hi, hu]
      obtain ⟨e2, h3, h4⟩ := ih h1 (env2 := env2.put u') (by rw [Env.length_put, Env.length_put, hl]) (fun i hi => hput i (hs i (by rcases hi with hi | hi <;> simp [Nat.testBit_or, hi])))
      refine ⟨e2, by simp [Rd.tr, hp, h3], fun i hi => ?_⟩
      cases hw : W'.testBit i with
      | true => exact h4 i hw
      | false =>
        simp only [Nat.testBit_or, bit_pow, hw, Bool.or_false, decide_eq_true_eq] at hi
        subst hi
        rw [(tr_keep k h3).2 _ hw, (tr_keep k h1).2 _ hw]
        exact hput _ hu
  | chk b k ih =>
    intro env env2 a e R W h hl hs
    simp only [Rd.tr] at h ⊢
    cases hb : okB c b with
    | false => simp [hb] at h
    | true => simp only [hb, cond_true] at h ⊢; exact ih h hl hs
  | call t as k ih =>
    intro env env2 a e R W h hl hs
    simp only [Rd.tr, TE.run] at h ⊢
    split at h
    · cases h
    · rename_i s' hs'
      obtain ⟨q, hq, h⟩ := Option.bind_eq_some_iff.1 h
      obtain ⟨e2, h3, h4⟩ := ih _ h hl hs
      refine ⟨e2, ?_, h4⟩
      rw [hq]
      exact h3
  | fail => intro env env2 a e R W h; simp [Rd.tr] at h

def Local (f : Env → Option (Env × Nat × Nat)) : Prop := ∀ env e R W, f env = some (e, R, W) → e.length = env.length ∧ (∀ s, W.testBit s = false → e.get s = env.get s) ∧
  ∀ env2 : Env, env2.length = env.length → (∀ s, R.testBit s = true ∨ W.testBit s = true → env2.get s = env.get s) → ∃ e2, f env2 = some (e2, R, W) ∧ ∀ s, W.testBit s = true → e2.get s = e.get s

theorem apart2_spec {R W R' W' : Nat} (h : apart2 R W R' W' = true) (s : Nat) : (W.testBit s = true → R'.testBit s = false ∧ W'.testBit s = false) ∧ (W'.testBit s = true → R.testBit s = false ∧ W.testBit s = false) := by
  simp only [apart2, Bool.and_eq_true, beq_iff_eq] at h
  obtain ⟨h1, h2⟩ := h
  have k1 := congrArg (Nat.testBit · s) h1
  have k2 := congrArg (Nat.testBit · s) h2
  simp only [Nat.testBit_and, Nat.testBit_or, Nat.zero_testBit, Bool.and_eq_false_iff, Bool.or_eq_false_iff] at k1 k2
  refine ⟨fun h => k1.resolve_left (by simp [h]), fun h => k2.resolve_left (by simp [h])⟩

/-- two that do not touch each other may be carried out in either order -/
theorem comm {f g : Env → Option (Env × Nat × Nat)} (hf : Local f) (hg : Local g) {env e1 e2 : Env} {R W R' W' : Nat} (h1 : f env = some (e1, R, W)) (h2 : g e1 = some (e2, R', W')) (ha : apart2 R W R' W' = true) :
    ∃ e1', g env = some (e1', R', W') ∧ f e1' = some (e2, R, W) := by
  obtain ⟨l1, k1, q1⟩ := hf _ _ _ _ h1
  obtain ⟨l2, k2, q2⟩ := hg _ _ _ _ h2
  obtain ⟨e1', h3, h4⟩ := q2 env l1.symm (fun s hs => by
    refine (k1 s ?_).symm
    cases hw : W.testBit s with
    | false => rfl
    | true =>
      obtain ⟨h5, h6⟩ := (apart2_spec ha s).1 hw
      rcases hs with hs | hs
      · rw [h5] at hs; cases hs
      · rw [h6] at hs; cases hs)
  obtain ⟨l3, k3, _⟩ := hg _ _ _ _ h3
  obtain ⟨e2', h5, h6⟩ := q1 e1' l3 (fun s hs => by
    refine k3 s ?_
    cases hw : W'.testBit s with
    | false => rfl
    | true =>
      obtain ⟨h5, h6⟩ := (apart2_spec ha s).2 hw
      rcases hs with hs | hs
      · rw [h5] at hs; cases hs
      · rw [h6] at hs; cases hs)
  obtain ⟨l5, k5, _⟩ := hf _ _ _ _ h5
  refine ⟨e1', h3, ?_⟩
  have : e2' = e2 := by
    apply Env.ext
    · rw [l5, l3, l2, l1]
    · intro s
      cases hw : W.testBit s with
      | true =>
        rw [h6 s hw, k2 s ((apart2_spec ha s).1 hw).2]
      | false =>
        rw [k5 s hw]
        cases hw' : W'.testBit s with
        | true => exact h4 s hw'
        | false => rw [k3 s hw', k2 s hw', k1 s hw]
  rw [← this]
  exact h5
end
end Go.VL

namespace Go.VL

/-- one operation of a region that runs in any order, with what it reads and writes -/
def stepT (C : Ctx) (ops : Array Oper) (o : Oper) (env : Env) : Option (Env × Nat × Nat) :=
  ((chainOf ops o).tr [] none env).bind fun x => match x.1, o.dst with
    | [], _ => ((opSem C [] o).tr [] o.dst x.2.1).map fun y => (y.2.1, x.2.2.1 ||| y.2.2.1, x.2.2.2 ||| y.2.2.2)
    | a :: c, some d => match (a :: c).all fun b => !(b.slot == d) with
      | true => ((opSem C (a :: c) o).tr (a :: c) o.dst x.2.1).bind fun y => match (y.2.1.get d).ep == (x.2.1.get d).ep + 1 && (y.2.1.get d).wc == (x.2.1.get d).wc + 1 with
        | true => some (y.2.1, x.2.2.1 ||| y.2.2.1, (x.2.2.2 ||| 2 ^ d) ||| y.2.2.2)
        | false => none
      | false => none
    | _, _ => none

section
variable {P : Program} {C : Ctx} {B : Base} {G : Nat → Prop} {F : Nat → List Res} {env : Env} {w : World} {a : Act}
variable {ρ : Type} {r : ρ} {ops : Array Oper}

theorem runOpT_step {o : Oper} {env : Env} {K : Env → Nat → Nat → Option ρ} (h : runOpT C ops o env K = some r) : ∃ e R W, stepT C ops o env = some (e, R, W) ∧ K e R W = some r := by
  unfold runOpT at h
  obtain ⟨c, e, R, W, h1, h⟩ := runT_tr _ h
  simp only [Nat.zero_or] at h
  unfold stepT
  rw [h1]
  simp only [Option.bind_some]
  split at h
  · obtain ⟨_, e', R', W', h2, h⟩ := runT_tr _ h
    exact ⟨e', R ||| R', W ||| W', by simp [h2], h⟩
  · rename_i b c d hd
    split at h
    case h_2 => cases h
    rename_i hall
    obtain ⟨_, e', R', W', h2, h⟩ := runT_tr _ h
    split at h
    case h_2 => cases h
    rename_i hck
    refine ⟨e', R ||| R', (W ||| 2 ^ d) ||| W', ?_, h⟩
    simp only [hall, hd] at h2 ⊢
    rw [h2]
    simp only [Option.bind_some, hck]
  · cases h

theorem stepT_run {o : Oper} {env e : Env} {R W : Nat} (h : stepT C ops o env = some (e, R, W)) : runOp C ops o env some = some e ∧ True := by
  unfold stepT at h
  obtain ⟨⟨c, e1, R1, W1⟩, h1, h⟩ := Option.bind_eq_some_iff.1 h
  simp only at h
  unfold runOp
  refine ⟨?_, trivial⟩
  rw [run_tr _ h1]
  split at h
  · simp only [Option.map_eq_some_iff] at h
    obtain ⟨⟨_, e2, R2, W2⟩, h2, h3⟩ := h
    simp only [Prod.mk.injEq] at h3
    obtain ⟨rfl, _, _⟩ := h3
    rw [run_tr _ h2]
  · rename_i b c d hd
    split at h
    case h_2 => cases h
    rename_i hall
    obtain ⟨⟨_, e2, R2, W2⟩, h2, h3⟩ := Option.bind_eq_some_iff.1 h
    simp only at h3
    split at h3
    case h_2 => cases h3
    rename_i hck
    simp only [Option.some.injEq, Prod.mk.injEq] at h3
    obtain ⟨rfl, _, _⟩ := h3
    simp only [hd] at h2 ⊢
    simp only [hall]
    rw [run_tr _ h2]
    simp only [hck]
  · cases h

theorem stepT_local (o : Oper) : Local (stepT C ops o) := by
  intro env e R W h
  unfold stepT at h
  obtain ⟨⟨c, e1, R1, W1⟩, h1, h⟩ := Option.bind_eq_some_iff.1 h
  simp only at h
  obtain ⟨l1, k1⟩ := tr_keep _ h1
  split at h
  · rename_i hd
    simp only [Option.map_eq_some_iff] at h
    obtain ⟨⟨_, e2, R2, W2⟩, h2, h3⟩ := h
    simp only [Prod.mk.injEq] at h3
    obtain ⟨rfl, rfl, rfl⟩ := h3
    obtain ⟨l2, k2⟩ := tr_keep _ h2
    refine ⟨l2.trans l1, fun s hs => ?_, fun env2 hl hs => ?_⟩
    · simp only [Nat.testBit_or, Bool.or_eq_false_iff] at hs
      rw [k2 s hs.2, k1 s hs.1]
    · obtain ⟨e1', h3, h4⟩ := tr_local _ h1 hl (fun s h => hs s (by rcases h with h | h <;> simp [Nat.testBit_or, h]))
      obtain ⟨l3, k3⟩ := tr_keep _ h3
      have hag : ∀ s, env2.get s = env.get s → e1'.get s = e1.get s := fun s hs' => by
        cases hw : W1.testBit s with
        | true => exact h4 s hw
        | false => rw [k3 s hw, k1 s hw, hs']
      obtain ⟨e2', h5, h6⟩ := tr_local _ h2 (env2 := e1') (by rw [l3, l1, hl]) (fun s h => hag s (hs s (by rcases h with h | h <;> simp [Nat.testBit_or, h])))
      obtain ⟨l5, k5⟩ := tr_keep _ h5
      refine ⟨e2', ?_, fun s hw => ?_⟩
      · unfold stepT
        rw [h3]
        simp only [Option.bind_some]
        rw [h5]
        rfl
      · cases hw2 : W2.testBit s with
        | true => exact h6 s hw2
        | false => rw [k5 s hw2, k2 s hw2]; exact hag s (hs s (.inr hw))
  · rename_i b c d hd
    split at h
    case h_2 => cases h
    rename_i hall
    obtain ⟨⟨_, e2, R2, W2⟩, h2, h3⟩ := Option.bind_eq_some_iff.1 h
    simp only at h3
    split at h3
    case h_2 => cases h3
    rename_i hck
    simp only [Option.some.injEq, Prod.mk.injEq] at h3
    obtain ⟨rfl, rfl, rfl⟩ := h3
    obtain ⟨l2, k2⟩ := tr_keep _ h2
    refine ⟨l2.trans l1, fun s hs => ?_, fun env2 hl hs => ?_⟩
    · simp only [Nat.testBit_or, Bool.or_eq_false_iff] at hs
      rw [k2 s hs.2, k1 s hs.1.1]
    · obtain ⟨e1', h3, h4⟩ := tr_local _ h1 hl (fun s h => hs s (by rcases h with h | h <;> simp [Nat.testBit_or, h]))
      obtain ⟨l3, k3⟩ := tr_keep _ h3
      have hag : ∀ s, env2.get s = env.get s → e1'.get s = e1.get s := fun s hs' => by
        cases hw : W1.testBit s with
        | true => exact h4 s hw
        | false => rw [k3 s hw, k1 s hw, hs']
      obtain ⟨e2', h5, h6⟩ := tr_local _ h2 (env2 := e1') (by rw [l3, l1, hl]) (fun s h => hag s (hs s (by rcases h with h | h <;> simp [Nat.testBit_or, h])))
      obtain ⟨l5, k5⟩ := tr_keep _ h5
      have hag2 : ∀ s, env2.get s = env.get s → e2'.get s = e2.get s := fun s hs' => by
        cases hw2 : W2.testBit s with
        | true => exact h6 s hw2
        | false => rw [k5 s hw2, k2 s hw2]; exact hag s hs'
      have hdd : env2.get d = env.get d := hs d (.inr (by simp [Nat.testBit_or]))
      refine ⟨e2', ?_, fun s hw => hag2 s (hs s (.inr hw))⟩
      unfold stepT
      rw [h3]
      simp only [Option.bind_some, hd]
      simp only [hd] at h5 hall
      simp only [hall]
      rw [h5]
      simp only [Option.bind_some, hag2 d hdd, hag d hdd, hck]
  · cases h

inductive Path (C : Ctx) (ops : Array Oper) (f : Nat → Nat × Nat) : List Nat → Env → Env → Prop
  | nil (e : Env) : Path C ops f [] e e
  | cons {i : Nat} {l : List Nat} {o : Oper} {e e1 e2 : Env} : ops[i]? = some o → stepT C ops o e = some (e1, (f i).1, (f i).2) → Path C ops f l e1 e2 → Path C ops f (i :: l) e e2

theorem Path.front {f : Nat → Nat × Nat} {i : Nat} {post : List Nat} : ∀ {pre : List Nat} {e e2 : Env}, Path C ops f (pre ++ i :: post) e e2 → (∀ j ∈ pre, apart2 (f j).1 (f j).2 (f i).1 (f i).2 = true) →
    Path C ops f (i :: (pre ++ post)) e e2
  | [], _, _, h, _ => h
  | j :: pre, e, e2, h, ha => by
    cases h with
    | cons ho hs hp =>
      have := Path.front hp (fun j hj => ha j (by simp [hj]))
      cases this with
      | cons ho' hs' hp' =>
        obtain ⟨e1', h1, h2⟩ := comm (stepT_local _) (stepT_local _) hs hs' (ha j (by simp))
        exact .cons ho' h1 (.cons ho h2 hp')

end
end Go.VL

namespace Go.VL
section
variable {P : Program} {C : Ctx} {B : Base} {G : Nat → Prop} {F : Nat → List Res} {env : Env} {w : World} {a : Act}
variable {ρ : Type} {r : ρ} {ops : Array Oper}

/-- j comes before i in every order -/
inductive Bhd (ops : Array Oper) (j : Nat) : Nat → Prop
  | base {i : Nat} {o : Oper} {e : Edge} : ops[i]? = some o → e ∈ o.after → Region.binds .any e = true → e.on = j → Bhd ops j i
  | step {i : Nat} {o : Oper} {e : Edge} : ops[i]? = some o → e ∈ o.after → Region.binds .any e = true → Bhd ops j e.on → Bhd ops j i

theorem bhd_out {L : List Nat} (hcl : ∀ k o, ops[k]? = some o → k ∉ L → ∀ e ∈ o.after, Region.binds .any e = true → e.on ∉ L) {j : Nat} : ∀ {i : Nat}, Bhd ops j i →
    (∀ o, ops[i]? = some o → ∀ e ∈ o.after, Region.binds .any e = true → e.on ∉ L) → j ∉ L := by
  intro i h
  induction h with
  | base ho he hb h => intro hr; exact h ▸ hr _ ho _ he hb
  | step ho he hb h ih =>
    intro hr
    have hn := hr _ ho _ he hb
    exact ih fun o' ho' e' he' hb' => hcl _ o' ho' hn e' he' hb'

theorem Path.len {f : Nat → Nat × Nat} : ∀ {l : List Nat} {e e2 : Env}, Path C ops f l e e2 → e2.length = e.length
  | _, _, _, .nil _ => rfl
  | _, _, _, .cons _ hs hp => hp.len.trans (stepT_local _ _ _ _ _ hs).1

theorem any_sound (hT : TysOk P C) (hE : EqsOk P C) (hTab : ∀ f te, C.tab f = some te → CallOk P f te) {Q : Exit → Act → World → Prop} (hl : ∀ o ∈ ops, ∀ dd, o.dst = some dd → ∀ l ∈ B.lents, l.1 ≠ dd)
    {f : Nat → Nat × Nat} {envF : Env} (hedge : ∀ i o, ops[i]? = some o → ∀ e ∈ o.after, Region.binds .any e = true → e.on < i)
    (hdep : ∀ i o, ops[i]? = some o → ∀ j, j < i → Bhd ops j i ∨ apart2 (f j).1 (f j).2 (f i).1 (f i).2 = true)
    (hQ : ∀ a' w' G' F', RelX B G' F' [] envF a'.tmps.toList w' → a'.defers = [] → Q .normal a' w') : ∀ (n : Nat) (L : List Nat) (listed : Array Bool) {G : Nat → Prop} {F : Nat → List Res} {env : Env} {w : World} {a : Act},
    L.length = n → RelX B G F [] env a.tmps.toList w → a.defers = [] → Path C ops f L env envF → listed.size = ops.size → (∀ j, j ∈ L ↔ j < ops.size ∧ listed.getD j true = false) → L.Pairwise (· < ·) →
    (∀ k o, ops[k]? = some o → k ∉ L → ∀ e ∈ o.after, Region.binds .any e = true → e.on ∉ L) → wpAny P .any ops Q n listed a w := by
  intro n
  induction n with
  | zero =>
    intro L listed G F env w a hn R hd hp hsz hL hpw hcl
    have hL0 : L = [] := List.eq_nil_of_length_eq_zero hn
    subst hL0
    cases hp with
    | nil =>
    refine ⟨?_, hQ a w G F R hd⟩
    rw [List.eq_nil_iff_forall_not_mem]
    intro i hi
    rw [mem_ready] at hi
    obtain ⟨h0, o, ho, _⟩ := hi
    have := (hL i).2 ⟨(Array.getElem?_eq_some_iff.1 ho).1, h0⟩
    simp at this
  | succ n ih =>
    intro L listed G F env w a hn R hd hp hsz hL hpw hcl
    have hout : ∀ k, k < ops.size → k ∉ L → listed.getD k false = true := fun k hk hkL => by
      have h1 : ¬ (listed.getD k true = false) := fun h => hkL ((hL k).2 ⟨hk, h⟩)
      have hk' : k < listed.size := by omega
      simp only [Array.getD, hk', dif_pos] at h1 ⊢
      simpa using h1
    refine ⟨fun h => ?_, fun i hi => ?_⟩
    · -- the first of those left is ready
      exfalso
      match L, hn, hp, hL, hpw, hcl, hout with
      | i :: L, hn, hp, hL, hpw, hcl, hout =>
        have hi := (hL i).1 (by simp)
        have : i ∈ Region.ready .any ops listed := by
          rw [mem_ready]
          refine ⟨hi.2, ops[i], by simp [hi.1], fun e he hb => ?_⟩
          have hlt := hedge i ops[i] (by simp [hi.1]) e he hb
          refine hout e.on (by omega) fun hm => ?_
          rcases List.mem_cons.1 hm with h | h
          · omega
          · have := (List.pairwise_cons.1 hpw).1 e.on h
            omega
        rw [h] at this
        simp at this
    · rw [mem_ready] at hi
      obtain ⟨h0, o, ho, hafter⟩ := hi
      have hisz := (Array.getElem?_eq_some_iff.1 ho).1
      have hiL := (hL i).2 ⟨hisz, h0⟩
      have hrdy : ∀ o', ops[i]? = some o' → ∀ e ∈ o'.after, Region.binds .any e = true → e.on ∉ L := fun o' ho' e he hb hm => by
        rw [ho] at ho'
        cases ho'
        have h1 := hafter e he hb
        have h2 := (hL e.on).1 hm
        have hk' : e.on < listed.size := by omega
        simp only [Array.getD, hk', dif_pos] at h1 h2
        rw [h1] at h2
        simp at h2
      obtain ⟨pre, post, rfl⟩ := List.append_of_mem hiL
      have hpw2 := List.pairwise_append.1 hpw
      have hp' := hp.front fun j hj => by
        have hlt := hpw2.2.2 j hj i (by simp)
        rcases hdep i o ho j hlt with h | h
        · exact absurd (show j ∈ pre ++ i :: post by simp [hj]) (bhd_out hcl h hrdy)
        · exact h
      obtain ⟨e1, hs, hp''⟩ : ∃ e1, stepT C ops o env = some (e1, (f i).1, (f i).2) ∧ Path C ops f (pre ++ post) e1 envF := by
        cases hp' with
        | cons ho' hs hp'' =>
          rw [ho] at ho'
          cases ho'
          exact ⟨_, hs, hp''⟩
      have hstep := (stepT_run hs).1
      have hnip : i ∉ pre ++ post := by
        have hnd : (pre ++ i :: post).Nodup := hpw.imp (fun h => Nat.ne_of_lt h)
        have := (List.nodup_append.1 hnd)
        have h2 := List.nodup_cons.1 this.2.1
        intro hm
        rcases List.mem_append.1 hm with hm | hm
        · exact this.2.2 i hm i (by simp) rfl
        · exact h2.1 hm
      have next : ∀ v w' G' F' env', (some env' : Option Env) = some e1 → RelX B G' F' [] env' (setO a.tmps.toList o.dst v) w' → env'.length = env.length → wpAny P .any ops Q n (listed.setIfInBounds i true) (a.put o.dst v) w' := by
        intro v w' G' F' env' he R' _
        cases he
        refine ih (pre ++ post) (listed.setIfInBounds i true) (by simp at hn ⊢; omega) (by rw [put_toList]; exact R') (by rw [put_defers]; exact hd) hp'' (by simpa using hsz) (fun j => ?_) ?_ ?_
        · by_cases hji : j = i
          · subst hji
            refine ⟨fun h => absurd h hnip, fun h => ?_⟩
            simp [hsz, hisz] at h
          · rw [getD_set_ne true (Ne.symm hji), ← hL j]
            simp [hji]
        · exact hpw.sublist (List.Sublist.append (List.Sublist.refl _) (List.sublist_cons_self _ _))
        · intro k o' ho' hk e he hb hm
          have hm' : e.on ∈ pre ++ i :: post := by
            rcases List.mem_append.1 hm with h | h <;> simp [h]
          by_cases hki : k = i
          · subst hki
            exact hrdy o' ho' e he hb hm'
          · refine hcl k o' ho' (fun hkm => hk ?_) e he hb hm'
            simpa [hki] using hkm
      have := runOp_sound hT hE hTab (a := a) (next := wpAny P .any ops Q n (listed.setIfInBounds i true)) (Q := Q) R (hl o (Array.mem_of_getElem? ho)) hstep next
      unfold wpOp
      simp only [ho]
      split
      · rename_i hw
        simp only [hw, if_true] at this
        exact .inl this
      · rename_i hw
        simp only [hw] at this
        exact this

theorem behind_bhd {acc : List (Nat × Nat × Nat)} {o : Oper} {j : Nat} (h : (behind acc o).testBit j = true) : ∃ e ∈ o.after, Region.binds .any e = true ∧ (e.on = j ∨ ((acc.getD e.on (0, 0, 0)).1).testBit j = true) := by
  have key : ∀ (l : List Edge) (m : Nat), (l.foldl (fun m e => match Region.binds .any e with | true => m ||| 2 ^ e.on ||| (acc.getD e.on (0, 0, 0)).1 | false => m) m).testBit j = true →
      m.testBit j = true ∨ ∃ e ∈ l, Region.binds .any e = true ∧ (e.on = j ∨ ((acc.getD e.on (0, 0, 0)).1).testBit j = true) := by
    intro l
    induction l with
    | nil => intro m h; exact .inl h
    | cons e l ih =>
      intro m h
      rw [List.foldl_cons] at h
      rcases ih _ h with h | ⟨e', he', h⟩
      · split at h
        · rename_i hb
          simp only [Nat.testBit_or, bit_pow, Bool.or_eq_true, decide_eq_true_eq] at h
          rcases h with (h | h) | h
          · exact .inl h
          · exact .inr ⟨e, by simp, hb, .inl h⟩
          · exact .inr ⟨e, by simp, hb, .inr h⟩
        · exact .inl h
      · exact .inr ⟨e', by simp [he'], h⟩
  rcases key _ 0 h with h | ⟨e, he, h⟩
  · simp at h
  · exact ⟨e, by simpa using he, h⟩

theorem indepAll_get {M R W : Nat} : ∀ (acc : List (Nat × Nat × Nat)) (k : Nat), indepAll M R W acc k = true → ∀ j x, acc[j]? = some x → M.testBit (k + j) = true ∨ apart2 R W x.2.1 x.2.2 = true
  | [], _, _, j, x, h => by simp at h
  | y :: acc, k, h, j, x, hx => by
    simp only [indepAll, Bool.and_eq_true, Bool.or_eq_true] at h
    cases j with
    | zero =>
      simp only [List.getElem?_cons_zero, Option.some.injEq] at hx
      subst hx
      exact h.1
    | succ j =>
      have := indepAll_get acc (k + 1) h.2 j x (by simpa using hx)
      rwa [show k + 1 + j = k + (j + 1) by omega] at this

theorem apart2_symm {R W R' W' : Nat} (h : apart2 R W R' W' = true) : apart2 R' W' R W = true := by
  simp only [apart2, Bool.and_eq_true] at h ⊢
  exact ⟨h.2, h.1⟩

/-- what the traced run shows -/
theorem runOpsT_path {K : Env → Option ρ} : ∀ (os : List Oper) (acc : List (Nat × Nat × Nat)) {env : Env}, os = ops.toList.drop acc.length → runOpsT C ops os acc env K = some r →
    (∀ i o, ops[i]? = some o → i < acc.length → ∀ e ∈ o.after, Region.binds .any e = true → e.on < i) →
    (∀ i o, ops[i]? = some o → i < acc.length → ∀ j, ((acc.getD i (0, 0, 0)).1).testBit j = true → Bhd ops j i) →
    (∀ i o, ops[i]? = some o → i < acc.length → ∀ j, j < i → Bhd ops j i ∨ apart2 (acc.getD j (0, 0, 0)).2.1 (acc.getD j (0, 0, 0)).2.2 (acc.getD i (0, 0, 0)).2.1 (acc.getD i (0, 0, 0)).2.2 = true) → acc.length ≤ ops.size →
    ∃ accF envF, (∃ ys, accF = acc ++ ys) ∧ Path C ops (fun i => (accF.getD i (0, 0, 0)).2) (List.range' acc.length os.length) env envF ∧ K envF = some r ∧
      (∀ i o, ops[i]? = some o → ∀ e ∈ o.after, Region.binds .any e = true → e.on < i) ∧
      (∀ i o, ops[i]? = some o → ∀ j, j < i → Bhd ops j i ∨ apart2 (accF.getD j (0, 0, 0)).2.1 (accF.getD j (0, 0, 0)).2.2 (accF.getD i (0, 0, 0)).2.1 (accF.getD i (0, 0, 0)).2.2 = true)
  | [], acc, env, hos, h, h1, h2, h3, h4 => by
    have hlen : acc.length = ops.size := by
      have := congrArg List.length hos
      simp at this
      omega
    refine ⟨acc, env, ⟨[], by simp⟩, .nil env, h, fun i o ho => h1 i o ho ?_, fun i o ho => h3 i o ho ?_⟩ <;>
      (have := (Array.getElem?_eq_some_iff.1 ho).1; omega)
  | o :: os, acc, env, hos, h, h1, h2, h3, h4 => by
    have ho : ops[acc.length]? = some o := by
      have := congrArg (·[0]?) hos
      simp at this
      exact this.symm
    have hos' : os = ops.toList.drop (acc.length + 1) := by
      have := congrArg List.tail hos
      simpa using this
    simp only [runOpsT] at h
    split at h
    case h_2 => cases h
    rename_i hed
    obtain ⟨e1, R, W, hs, h⟩ := runOpT_step h
    split at h
    case h_2 => cases h
    rename_i hind
    have hedge : ∀ e ∈ o.after, Region.binds .any e = true → e.on < acc.length := fun e he hb => by
      have := List.all_eq_true.1 hed e (by simpa using he)
      simpa [hb] using this
    have hnew : ∀ j, (behind acc o).testBit j = true → Bhd ops j acc.length := fun j hj => by
      obtain ⟨e, he, hb, h⟩ := behind_bhd hj
      rcases h with h | h
      · exact .base ho he hb h
      · have hlt := hedge e he hb
        have hsz : e.on < ops.size := by omega
        exact .step ho he hb (h2 e.on ops[e.on] (by simp [hsz]) hlt j h)
    have g0 : ∀ i, i < acc.length → (acc ++ [(behind acc o, R, W)]).getD i (0, 0, 0) = acc.getD i (0, 0, 0) := fun i hi => by
      simp [List.getD, List.getElem?_append_left hi]
    have g1 : (acc ++ [(behind acc o, R, W)]).getD acc.length (0, 0, 0) = (behind acc o, R, W) := by simp [List.getD]
    have hsplit : ∀ i o', ops[i]? = some o' → i < (acc ++ [(behind acc o, R, W)]).length → i < acc.length ∨ (i = acc.length ∧ o' = o) := fun i o' ho' hi => by
      simp at hi
      by_cases h : i < acc.length
      · exact .inl h
      · have : i = acc.length := by omega
        subst this
        rw [ho] at ho'
        cases ho'
        exact .inr ⟨rfl, rfl⟩
    obtain ⟨accF, envF, ⟨ys, hys⟩, k2, k3, k4, k5⟩ := runOpsT_path os (acc ++ [(behind acc o, R, W)]) (env := e1) (by simpa using hos') h
      (fun i o' ho' hi => by
        rcases hsplit i o' ho' hi with h | ⟨rfl, rfl⟩
        · exact h1 i o' ho' h
        · exact hedge)
      (fun i o' ho' hi j hj => by
        rcases hsplit i o' ho' hi with h | ⟨rfl, rfl⟩
        · rw [g0 i h] at hj; exact h2 i o' ho' h j hj
        · rw [g1] at hj; exact hnew j hj)
      (fun i o' ho' hi j hj => by
        rcases hsplit i o' ho' hi with h | ⟨rfl, rfl⟩
        · rw [g0 i h, g0 j (by omega)]; exact h3 i o' ho' h j hj
        · rw [g1, g0 j hj]
          have hx : acc[j]? = some acc[j] := by simp [hj]
          rcases indepAll_get acc 0 hind j _ hx with h | h
          · exact .inl (hnew j (by simpa using h))
          · right
            simp only [List.getD, hx, Option.getD_some]
            exact apart2_symm h)
      (by have := (Array.getElem?_eq_some_iff.1 ho).1; simp; omega)
    refine ⟨accF, envF, ⟨(behind acc o, R, W) :: ys, by rw [hys]; simp⟩, ?_, k3, k4, k5⟩
    have hf : (accF.getD acc.length (0, 0, 0)).2 = (R, W) := by
      rw [hys]
      simp [List.getD]
    have k2' : Path C ops (fun i => (accF.getD i (0, 0, 0)).2) (List.range' (acc.length + 1) os.length) e1 envF := by simpa using k2
    simp only [List.length_cons, List.range'_succ]
    exact .cons ho (by rw [hf]; exact hs) k2'

/-- a region that runs in any order -/
theorem region_any (hm : P.follows .mixedOrders = true) (hT : TysOk P C) (hE : EqsOk P C) (hTab : ∀ f te, C.tab f = some te → CallOk P f te) {Q : Exit → Act → World → Prop} (hl : ∀ o ∈ ops, ∀ dd, o.dst = some dd → ∀ l ∈ B.lents, l.1 ≠ dd) {K : Env → Option ρ} {id : Nat}
    (R : RelX B G F [] env a.tmps.toList w) (hd : a.defers = []) (h : runOpsT C ops ops.toList [] env K = some r)
    (hQ : ∀ a' w' G' F' env', K env' = some r → RelX B G' F' [] env' a'.tmps.toList w' → env'.length = env.length → a'.defers = [] → Q .normal a' w') : (Code.region id ops true).wp P Q a w := by
  obtain ⟨accF, envF, _, hp, hK, hedge, hdep⟩ := runOpsT_path ops.toList [] rfl h (fun i o _ hi => by simp at hi) (fun i o _ hi => by simp at hi) (fun i o _ hi => by simp at hi) (Nat.zero_le _)
  have R' : RelX B G F [] env a.tmps.toList { w with drawn := w.drawn + 1 } :=
    R.world (X := fun _ _ => False) ⟨⟨Nat.le_refl _, fun _ c _ _ h => ⟨c, h, rfl⟩, fun _ _ _ => rfl⟩, rfl, rfl, rfl, fun _ _ _ => rfl⟩ (fun _ _ h => h.elim) (fun _ _ h => h.elim) (fun _ _ _ h => h.elim)
  refine wp_region_any hm (any_sound hT hE hTab hl hedge hdep (fun a' w' G' F' R' hd' => hQ a' w' G' F' envF hK R' hp.len hd') ops.size (List.range' 0 ops.toList.length) _ (by simp) R' hd hp (by simp) (fun j => ?_) (List.pairwise_lt_range' _) ?_)
  · rw [← List.range_eq_range', List.mem_range, Array.length_toList]
    refine ⟨fun h => ⟨h, by simp [h]⟩, fun h => h.1⟩
  · intro k o ho hk
    exfalso
    apply hk
    have := (Array.getElem?_eq_some_iff.1 ho).1
    simp [List.mem_range']
    omega

end
end Go.VL

namespace Go.VL
section
variable {P : Program} {C : Ctx} {B : Base} {G : Nat → Prop} {F : Nat → List Res} {env : Env} {ts : List Value} {w : World}

/-- what stands in a slot of a state that a shape was forgotten to -/
theorem encOn_get (env : Env) (i : Nat) : ∀ (l : Shape) (x : l.S) (e0 : Env), l.decL env = some x →
    ((l.encOn x e0).get i = e0.get i ∨ ∃ h y, (i, h) ∈ l ∧ h.dec env (env.get i).e = some y ∧ i < e0.length ∧ (l.encOn x e0).get i = ⟨0, 0, h.enc y⟩) ∧ (l.encOn x e0).length = e0.length
  | [], _, _, _ => ⟨.inl rfl, rfl⟩
  | (s, h) :: l, x, e0, hd => by
    simp only [Shape.decL, Option.bind_eq_some_iff, Option.map_eq_some_iff] at hd
    obtain ⟨y, hy, r, hr, rfl⟩ := hd
    obtain ⟨h1, h2⟩ := encOn_get env i l r (e0.set s ⟨0, 0, h.enc y⟩) hr
    refine ⟨?_, by simp only [Shape.encOn]; rw [h2]; simp⟩
    simp only [Shape.encOn]
    rcases h1 with h1 | ⟨h', y', k1, k2, k3, k4⟩
    · rw [h1]
      by_cases hi : s = i
      · subst hi
        by_cases hl : s < e0.length
        · exact .inr ⟨h, y, by simp, hy, hl, by simp [Env.get, List.getD, hl]⟩
        · exact .inl (by simp [List.set_eq_of_length_le (Nat.le_of_not_lt hl)])
      · exact .inl (by simp [Env.get, List.getD, List.getElem?_set_ne hi])
    · exact .inr ⟨h', y', by simp [k1], k2, by simpa using k3, k4⟩

theorem refs_get (env : Env) : ∀ (l : Shape), l.refs env = true → (∀ s r p, (s, Sh.ad r p) ∈ l → ∀ r' ep q, (env.get s).e = .addr r' ep q → refOk env r' q = true) ∧
    (∀ s r p, (s, Sh.pr r p) ∈ l → ∀ r' ep wc q, (env.get s).e = .pref r' ep wc q → refOk env r' q = true)
  | [], _ => ⟨fun _ _ _ h => by simp at h, fun _ _ _ h => by simp at h⟩
  | (s, h) :: l, hr => by
    have hl : Shape.refs env l = true := by
      cases h <;> simp only [Shape.refs, Bool.and_eq_true] at hr <;> first | exact hr | exact hr.2
    obtain ⟨h1, h2⟩ := refs_get env l hl
    refine ⟨fun s' r p hm => ?_, fun s' r p hm => ?_⟩
    · rcases List.mem_cons.1 hm with he | hm
      · simp only [Prod.mk.injEq] at he
        obtain ⟨rfl, rfl⟩ := he
        intro r' ep q he
        simp only [Shape.refs, he, Bool.and_eq_true] at hr
        exact hr.1
      · exact h1 s' r p hm
    · rcases List.mem_cons.1 hm with he | hm
      · simp only [Prod.mk.injEq] at he
        obtain ⟨rfl, rfl⟩ := he
        intro r' ep wc q he
        simp only [Shape.refs, he, Bool.and_eq_true] at hr
        exact hr.1
      · exact h2 s' r p hm

theorem dec_path : ∀ (p : List SP) (q : List Step) (x : idxs p), decPath p q = some x → encPath p x = q
  | [], [], _, _ => rfl
  | .idx :: p, .idx i :: q, x, h => by
    simp only [decPath, Option.map_eq_some_iff] at h
    obtain ⟨r, hr, rfl⟩ := h
    simp [encPath, dec_path p q r hr]
  | .fst :: p, .fst :: q, x, h => by simp only [decPath] at h; simp [encPath, dec_path p q x h]
  | .snd :: p, .snd :: q, x, h => by simp only [decPath] at h; simp [encPath, dec_path p q x h]
  | .der :: p, .der :: q, x, h => by simp only [decPath] at h; simp [encPath, dec_path p q x h]
  | [], _ :: _, _, h => by simp [decPath] at h
  | _ :: _, [], _, h => by simp [decPath] at h
  | .idx :: _, .fst :: _, _, h | .idx :: _, .snd :: _, _, h | .idx :: _, .der :: _, _, h => by simp [decPath] at h
  | .fst :: _, .idx _ :: _, _, h | .fst :: _, .snd :: _, _, h | .fst :: _, .der :: _, _, h => by simp [decPath] at h
  | .snd :: _, .idx _ :: _, _, h | .snd :: _, .fst :: _, _, h | .snd :: _, .der :: _, _, h => by simp [decPath] at h
  | .der :: _, .idx _ :: _, _, h | .der :: _, .fst :: _, _, h | .der :: _, .snd :: _, _, h => by simp [decPath] at h

theorem getP_ty : ∀ (p : List Step) (t : Ty) (m m' : Md) (x x' : t.den) (u u' : TV), getP p t m x = some u → getP p t m' x' = some u' → u.t = u'.t := by
  intro p
  induction p with
  | nil =>
    intro t m m' x x' u u' h h'
    simp only [getP, Option.some.injEq] at h h'
    rw [← h, ← h']
  | cons s p ih =>
    intro t m m' x x' u u' h h'
    cases s with
    | fst => cases t <;> simp only [getP] at h h' <;> first | exact ih _ _ _ _ _ _ _ h h' | cases h
    | snd => cases t <;> simp only [getP] at h h' <;> first | exact ih _ _ _ _ _ _ _ h h' | cases h
    | idx i =>
      cases t with
      | arr n a => simp only [getP] at h h'; exact ih _ _ _ _ _ _ _ h h'
      | list a => cases m <;> simp only [getP] at h <;> first | cases h | (cases m' <;> simp only [getP] at h' <;> first | cases h' | exact ih _ _ _ _ _ _ _ h h')
      | _ => simp [getP] at h
    | der =>
      cases t with
      | ptr a => cases m <;> simp only [getP] at h <;> first | cases h | (cases m' <;> simp only [getP] at h' <;> first | cases h' | exact ih _ _ _ _ _ _ _ h h')
      | _ => simp [getP] at h

/-- what a slot says of its value, when part of what it owned is shared -/
theorem dec_val {i : Nat} {h : Sh} {y : h.den} (R : RelX B G F [] env ts w) (hi : i < env.length) (hd : h.dec env (env.get i).e = some y) {t : Ty} {m : Md} {x : t.den} (he : h.enc y = .val t m x) :
    ∃ m' x', (env.get i).e = .val t m' x' ∧ ∃ f z : List Res, f.Sublist (F i) ∧ z.Sublist (F i) ∧ Apart f z ∧ vrel (fun b => G b ∨ blks z b) w t m x (ts.getD i undef) f := by
  have hs := R.slot i hi
  have nd := R.nd i
  obtain ⟨e, he0⟩ : ∃ e, (env.get i).e = e := ⟨_, rfl⟩
  rw [he0] at hs hd
  simp only [he0]
  cases h with
  | va t1 m1 =>
    cases e <;> simp only [Sh.dec] at hd <;> try (cases hd; done)
    rename_i t' m' x'
    split at hd
    case h_2 => cases hd
    rename_i hco
    obtain ⟨rfl, rfl⟩ := castV_eq hd
    simp only [Sh.enc, Entry.val.injEq] at he
    obtain ⟨rfl, rfl, he⟩ := he
    cases he
    obtain ⟨f, z, h1, h2, h3, h4⟩ := rep_coe _ _ _ _ _ _ hco nd hs.1
    exact ⟨m', x', rfl, f, z, h1, h2, h3, h4, hs.2⟩
  | bo t1 m1 =>
    cases e <;> simp only [Sh.dec] at hd <;> try (cases hd; done)
    rename_i t' m' x'
    cases t' <;> try (simp at hd; done)
    rename_i t'
    cases m' <;> try (simp at hd; done)
    rename_i m'
    cases x' with
    | none => simp at hd
    | some x' =>
      simp only at hd
      split at hd
      case h_2 => cases hd
      rename_i hco
      obtain ⟨rfl, rfl⟩ := castV_eq hd
      simp only [Sh.enc, Entry.val.injEq] at he
      obtain ⟨rfl, rfl, he⟩ := he
      cases he
      have hr := hs.1
      simp only [unpack, Ty.agg, if_false, Bool.false_eq_true] at hr
      obtain ⟨y, b, o, c, f, hy, hc, hf, hsp, hcc, hrep⟩ := hr
      cases hy
      have ndf := (List.pairwise_cons.1 (hf ▸ nd : ND _))
      obtain ⟨f2, z, h1, h2, h3, h4⟩ := rep_coe _ _ _ _ _ _ hco ndf.2 hrep
      refine ⟨.o m', some x', rfl, ⟨b, o, o + t'.sz⟩ :: f2, z, ?_, ?_, ?_, ?_, hs.2⟩
      · rw [hf]; exact h1.cons_cons _
      · rw [hf]; exact h2.cons _
      · intro r hr q hq
        rcases List.mem_cons.1 hr with rfl | hr
        · exact ndf.1 q (h2.subset hq)
        · exact h3 r hr q hq
      · simp only [unpack, Ty.agg, if_false, Bool.false_eq_true]
        exact ⟨x', b, o, c, f2, rfl, hc, rfl, hsp, hcc, h4⟩
  | ad r p => simp [Sh.enc] at he
  | pr r p => simp [Sh.enc] at he
  | rf t => simp [Sh.enc] at he
  | fu n =>
    cases e <;> simp only [Sh.dec] at hd <;> try (cases hd; done)
    rename_i t' m' x'
    cases t' <;> try (simp at hd; done)
    cases x' with
    | none => simp at hd
    | some n' =>
      simp only at hd
      split at hd
      case h_2 => cases hd
      rename_i hn
      simp only [beq_iff_eq] at hn
      subst hn
      simp only [Sh.enc, Entry.val.injEq] at he
      obtain ⟨rfl, rfl, he⟩ := he
      cases he
      refine ⟨m', some n, rfl, [], [], List.nil_sublist _, List.nil_sublist _, fun r hr => by simp at hr, ⟨hs.1.1, rfl⟩, hs.2⟩

/-- a state is forgotten to a shape -/
theorem forget {n : Nat} {sh : Shape} {s : sh.S} (R : RelX B G F [] env ts w) (hn : env.length = n) (hd : sh.dec n env = some s) : ∃ G' F', RelX B G' F' [] (sh.enc n s) ts w := by
  simp only [Shape.dec, Option.bind_eq_some_iff] at hd
  obtain ⟨s', hd, hr⟩ := hd
  split at hr
  case h_2 => cases hr
  rename_i hrefs
  cases hr
  have hget := fun i => (encOn_get env i sh s (List.replicate n ⟨0, 0, .undef⟩) hd).1
  have hlen : (sh.enc n s).length = n := by
    have := (encOn_get env 0 sh s (List.replicate n ⟨0, 0, .undef⟩) hd).2
    simpa [Shape.enc] using this
  have hget' : ∀ i, (sh.enc n s).get i = ⟨0, 0, .undef⟩ ∨ ∃ h y, (i, h) ∈ sh ∧ h.dec env (env.get i).e = some y ∧ i < n ∧ (sh.enc n s).get i = ⟨0, 0, h.enc y⟩ := fun i => by
    rcases hget i with h | ⟨h, y, h1, h2, h3, h4⟩
    · left
      have : Env.get (List.replicate n ⟨0, 0, .undef⟩) i = ⟨0, 0, .undef⟩ := by
        simp only [Env.get, List.getD]
        by_cases hi : i < n
        · simp [hi]
        · simp [List.getElem?_eq_none (by simpa using Nat.le_of_not_lt hi : (List.replicate n (⟨0, 0, .undef⟩ : Sl)).length ≤ i)]
      exact h.trans this
    · exact .inr ⟨h, y, h1, h2, by simpa using h3, h4⟩
  obtain ⟨hr1, hr2⟩ := refs_get (sh.enc n s) sh hrefs
  -- what each slot keeps, and what it shares
  have each : ∀ i, ∃ fz : List Res × List Res, fz.1.Sublist (F i) ∧ fz.2.Sublist (F i) ∧ Apart fz.1 fz.2 ∧
      (∀ t m x, ((sh.enc n s).get i).e = .val t m x → (∃ m' x', (env.get i).e = .val t m' x') ∧ vrel (fun b => G b ∨ blks fz.2 b) w t m x (ts.getD i undef) fz.1) ∧
      ((∀ t m x, ((sh.enc n s).get i).e ≠ .val t m x) → fz.1 = []) := fun i => by
    by_cases hv : ∃ t m x, ((sh.enc n s).get i).e = .val t m x
    · obtain ⟨t, m, x, hv⟩ := hv
      rcases hget' i with h | ⟨h, y, h1, h2, h3, h4⟩
      · rw [h] at hv; cases hv
      · rw [h4] at hv
        obtain ⟨m', x', k1, f, z, k2, k3, k4, k5⟩ := dec_val R (by omega) h2 hv
        refine ⟨(f, z), k2, k3, k4, fun t2 m2 x2 hv2 => ?_, fun hno => absurd (h4 ▸ hv) (hno t m x)⟩
        rw [h4] at hv2
        have := hv.symm.trans hv2
        cases this
        exact ⟨⟨m', x', k1⟩, k5⟩
    · refine ⟨([], []), List.nil_sublist _, List.nil_sublist _, fun r hr => by simp at hr, fun t m x h => absurd ⟨t, m, x, h⟩ hv, fun _ => rfl⟩
  obtain ⟨FZ, hFZ⟩ := Classical.axiomOfChoice each
  have hz : ∀ i, ∀ q ∈ (FZ i).2, q ∈ F i := fun i q hq => (hFZ i).2.1.subset hq
  have hf : ∀ i, ∀ q ∈ (FZ i).1, q ∈ F i := fun i q hq => (hFZ i).1.subset hq
  let G' : Nat → Prop := fun b => G b ∨ ∃ i, blks (FZ i).2 b
  have hval : ∀ i t m x, ((sh.enc n s).get i).e = .val t m x → (∃ m' x', (env.get i).e = .val t m' x') ∧ vrel G' w t m x (ts.getD i undef) (FZ i).1 := fun i t m x h => by
    obtain ⟨h1, h2⟩ := (hFZ i).2.2.2.1 t m x h
    exact ⟨h1, vrel_G (fun b hb => hb.imp id fun h => ⟨i, h⟩) h2⟩
  refine ⟨G', fun i => (FZ i).1, ?_⟩
  refine { len := by rw [hlen, ← hn]; exact R.len, slot := fun i hi => ?_, held := fun k h hk => (by simp at hk), out := fun i hi => ?_, nd := fun i => (R.nd i).sub (hFZ i).1,
           ap := fun i j hij a ha b hb => R.ap i j hij a (hf i a ha) b (hf j b hb), ok := fun i q hq => ⟨?_, (R.ok i q (hf i q hq)).2⟩, g0 := fun b hb => .inl (R.g0 b hb), gl := ?_, turn := R.turn,
           chain := fun i g e hi => ?_, lent := fun l hl t m x he => ?_ }
  · rcases hget' i with h | ⟨h, y, h1, h2, h3, h4⟩
    · rw [h]; trivial
    · have hs := R.slot i (by omega)
      have hno : (∀ t m x, ((sh.enc n s).get i).e ≠ .val t m x) → (FZ i).1 = [] := (hFZ i).2.2.2.2
      cases h with
      | va t m => rw [h4]; exact (hval i t m y (by rw [h4]; rfl)).2
      | bo t m => rw [h4]; exact (hval i _ _ _ (by rw [h4]; rfl)).2
      | fu k => rw [h4]; exact (hval i _ _ _ (by rw [h4]; rfl)).2
      | rf t =>
        rw [hno (fun t m x => by rw [h4]; simp [Sh.enc])]
        obtain ⟨e, he0⟩ : ∃ e, (env.get i).e = e := ⟨_, rfl⟩
        rw [he0] at hs h2
        cases e <;> simp only [Sh.dec] at h2 <;> try (cases h2; done)
        obtain ⟨e1, rfl⟩ := castV_eq h2
        subst e1
        obtain ⟨_, ad, cs, k2, k3, k4, k5⟩ := hs
        rw [h4]
        exact ⟨rfl, ad, cs, k2, .inl k3, k4, rep_frame (X := fun _ _ => False) (Same.refl _ w) (fun _ h => .inl h) (fun _ _ h => h.elim) _ _ _ _ _ (fun _ h => by simp at h) k5⟩
      | ad r p =>
        rw [hno (fun t m x => by rw [h4]; simp [Sh.enc])]
        have hro := hr1 i r p h1
        rw [h4] at hro ⊢
        simp only [Sh.enc] at hro ⊢
        have hro := hro _ _ _ rfl
        obtain ⟨e, he0⟩ : ∃ e, (env.get i).e = e := ⟨_, rfl⟩
        rw [he0] at hs h2
        cases e <;> simp only [Sh.dec] at h2 <;> try (cases h2; done)
        rename_i r' ep q
        split at h2
        case h_2 => cases h2
        rename_i hck
        simp only [Bool.and_eq_true, beq_iff_eq] at hck
        obtain ⟨rfl, hep⟩ := hck
        have hpq := dec_path _ _ _ h2
        obtain ⟨_, _, h3'⟩ := hs
        obtain ⟨t, m, x, u, ad, k1, k2, k3, k4⟩ := h3' hep.symm
        refine ⟨rfl, Nat.zero_le _, fun _ => ?_⟩
        unfold refOk at hro
        split at hro
        case h_2 => cases hro
        rename_i t2 m2 x2 he2
        obtain ⟨⟨m', x', k5⟩, _⟩ := hval r t2 m2 x2 he2
        rw [k1] at k5
        cases k5
        obtain ⟨u', hu'⟩ := Option.isSome_iff_exists.1 hro
        exact ⟨_, m2, x2, u', ad, he2, hu', by rw [hpq]; exact k3, k4⟩
      | pr r p =>
        rw [hno (fun t m x => by rw [h4]; simp [Sh.enc])]
        have hro := hr2 i r p h1
        rw [h4] at hro ⊢
        simp only [Sh.enc] at hro ⊢
        have hro := hro _ _ _ _ rfl
        obtain ⟨e, he0⟩ : ∃ e, (env.get i).e = e := ⟨_, rfl⟩
        rw [he0] at hs h2
        cases e <;> simp only [Sh.dec] at h2 <;> try (cases h2; done)
        rename_i r' ep wc q
        split at h2
        case h_2 => cases h2
        rename_i hck
        simp only [Bool.and_eq_true, beq_iff_eq] at hck
        obtain ⟨⟨rfl, hep⟩, hwc⟩ := hck
        have hpq := dec_path _ _ _ h2
        obtain ⟨_, _, _, h3'⟩ := hs
        obtain ⟨t, m, x, u, k1, k2, k3⟩ := h3' hep.symm
        refine ⟨rfl, Nat.zero_le _, Nat.zero_le _, fun _ => ?_⟩
        unfold refOk at hro
        split at hro
        case h_2 => cases hro
        rename_i t2 m2 x2 he2
        obtain ⟨⟨m', x', k5⟩, _⟩ := hval r t2 m2 x2 he2
        rw [k1] at k5
        cases k5
        obtain ⟨u', hu'⟩ := Option.isSome_iff_exists.1 hro
        have hty := getP_ty _ _ _ _ _ _ _ _ k2 (hpq ▸ hu')
        refine ⟨_, m2, x2, u', he2, hu', fun _ => ?_⟩
        obtain ⟨c, c1, c2, c3⟩ := k3 (by simp [aliasOk, hwc])
        refine ⟨c, by rw [← hty]; exact c1, by rw [← hty]; exact c2, ?_⟩
        rw [hpq]
        exact c3
  · have h0 : (sh.enc n s).get i = ⟨0, 0, .undef⟩ := by
      rcases hget' i with h | ⟨h, y, h1, h2, h3, h4⟩
      · exact h
      · simp [hlen] at hi; omega
    exact (hFZ i).2.2.2.2 (fun t m x => by rw [h0]; simp)
  · rintro (h | ⟨j, z, hz', e⟩)
    · exact (R.ok i q (hf i q hq)).1 h
    · by_cases hij : i = j
      · subst hij
        exact (hFZ i).2.2.1 q hq z hz' e.symm
      · exact R.ap i j hij q (hf i q hq) z (hz j z hz') e.symm
  · rintro b (hb | ⟨j, z, hz', rfl⟩)
    · exact R.gl b hb
    · obtain ⟨_, h2, h3⟩ := R.ok j z (hz j z hz')
      exact ⟨h2, .inr (h3.imp id fun ⟨q, hq, e, _⟩ => ⟨q, hq, e⟩)⟩
  · rcases hget' i with h | ⟨h, y, h1, h2, h3, h4⟩
    · rw [h] at hi; cases hi
    · rw [h4] at hi
      cases h <;> cases hi
  · obtain ⟨⟨m', x', k⟩, _⟩ := hval _ _ _ _ he
    exact R.lent l hl t m' x' k

end
end Go.VL

namespace Go.VL

def noDst (l : List Nat) : Code → Bool
  | .region _ ops _ => ops.all fun o => match o.dst with | some d => !l.contains d | none => true
  | .seq x y | .cond _ x y => noDst l x && noDst l y
  | .block _ x | .loop x => noDst l x
  | _ => true

def exOf : Ex → Exit
  | .normal => .normal
  | .exit id => .exit id
  | .ret => .ret

theorem noDst_ops {l : List Nat} {ops : Array Oper} {id : Nat} {b : Bool} (h : noDst l (.region id ops b) = true) : ∀ o ∈ ops, ∀ dd, o.dst = some dd → dd ∉ l := by
  intro o ho dd hd
  simp only [noDst, Array.all_eq_true_iff_forall_mem] at h
  have := h o ho
  rw [hd] at this
  simpa using this

section
variable {P : Program} {C : Ctx} {B : Base} {w : World} {a : Act}

theorem outs_dec {n : Nat} {e : Env} {ex : Ex} : ∀ (os : List (Ex × Shape)) (o : Outs os), Outs.dec n e ex os = some o → ∃ (sh : Shape) (s : sh.S), sh.dec n e = some s ∧ ∀ {ρ : Type} (K : Ex → Env → Option ρ), elimO n K os o = K ex (sh.enc n s)
  | [], o, _ => o.elim
  | [x], o, h => by
    simp only [Outs.dec] at h
    split at h
    · rename_i he
      exact ⟨x.2, o, h, fun K => by simp only [elimO, he]⟩
    · cases h
  | x :: y :: l, o, h => by
    simp only [Outs.dec] at h
    split at h
    · rename_i he
      obtain ⟨s, hs, rfl⟩ := Option.map_eq_some_iff.1 h
      exact ⟨x.2, s, hs, fun K => by simp only [elimO, Sum.elim_inl, he]⟩
    · obtain ⟨o', ho, rfl⟩ := Option.map_eq_some_iff.1 h
      obtain ⟨sh, s, h1, h2⟩ := outs_dec (y :: l) o' ho
      exact ⟨sh, s, h1, fun K => by simp only [elimO, Sum.elim_inr]; exact h2 K⟩

theorem encOn_len : ∀ (l : Shape) (x : l.S) (e : Env), (l.encOn x e).length = e.length
  | [], _, _ => rfl
  | (s, h) :: l, x, e => by simp only [Shape.encOn]; rw [encOn_len l]; simp

theorem enc_len (n : Nat) (l : Shape) (x : l.S) : (l.enc n x).length = n := by
  unfold Shape.enc
  rw [encOn_len]
  simp

theorem exists_least {p : Nat → Prop} (h : ∃ j, p j) : ∃ j, p j ∧ ∀ i, i < j → ¬ p i := by
  obtain ⟨j, hj⟩ := h
  induction j using Nat.strongRecOn with
  | _ j ih =>
    by_cases h : ∃ i, i < j ∧ p i
    · obtain ⟨i, hi, hpi⟩ := h
      exact ih i hi hpi
    · exact ⟨j, hj, fun i hi hpi => h ⟨i, hi, hpi⟩⟩

theorem ev_sound (hm : P.follows .mixedOrders = true) (hT : TysOk P C) (hE : EqsOk P C) (hTab : ∀ f te, C.tab f = some te → CallOk P f te) {k n : Nat} : ∀ (ac : AC) (code : Code) {ρ : Type} {K : Ex → Env → Option ρ} {r : ρ} {Q : Exit → Act → World → Prop}
    {G : Nat → Prop} {F : Nat → List Res} {env : Env} {w : World} {a : Act},
    AC.ok C k n ac code → ev C k n ac code env K = some r → noDst (B.lents.map (·.1)) code = true → RelX B G F [] env a.tmps.toList w → a.defers = [] → env.length = n →
    (∀ ex env' a' w' G' F', K ex env' = some r → RelX B G' F' [] env' a'.tmps.toList w' → a'.defers = [] → env'.length = n → Q (exOf ex) a' w') → code.wp P Q a w := by
  intro ac
  induction ac with
  | rg =>
    intro code ρ K r Q G F env w a _ h hnd R hd hn hQ
    cases code with
    | region id ops b =>
      have hl : ∀ o ∈ ops, ∀ dd, o.dst = some dd → ∀ l ∈ B.lents, l.1 ≠ dd := fun o ho dd hdd l hl he =>
        noDst_ops hnd o ho dd hdd (List.mem_map.2 ⟨l, hl, he⟩)
      cases b with
      | false =>
        simp only [ev] at h
        refine wp_region (runOps_sound hT hE hTab hl (List.range ops.size) R hd (by rw [range_ops]; exact h) (fun a' w' G' F' env' h1 h2 h3 h4 => hQ .normal env' a' w' G' F' h1 h2 h4 (h3.trans hn)))
      | true =>
        simp only [ev] at h
        exact region_any hm hT hE hTab hl R hd h (fun a' w' G' F' env' h1 h2 h3 h4 => hQ .normal env' a' w' G' F' h1 h2 h4 (h3.trans hn))
    | _ => simp [ev] at h
  | nx =>
    intro code ρ K r Q G F env w a _ h hnd R hd hn hQ
    cases code with
    | skip => simp only [ev] at h; exact wp_skip (hQ .normal env a w G F h R hd hn)
    | ret => simp only [ev] at h; exact wp_ret (hQ .ret env a w G F h R hd hn)
    | exit id => simp only [ev] at h; exact wp_exit (hQ (.exit id) env a w G F h R hd hn)
    | _ => simp [ev] at h
  | sq x y ihx ihy =>
    intro code ρ K r Q G F env w a hok h hnd R hd hn hQ
    cases code with
    | seq cx cy =>
      simp only [ev] at h
      simp only [noDst, Bool.and_eq_true] at hnd
      refine wp_seq (ihx cx hok.1 h hnd.1 R hd hn (fun ex env' a' w' G' F' h1 h2 h3 h4 => ?_))
      cases ex with
      | normal => exact ihy cy hok.2 h1 hnd.2 h2 h3 h4 hQ
      | exit id => exact hQ (.exit id) env' a' w' G' F' h1 h2 h3 h4
      | ret => exact hQ .ret env' a' w' G' F' h1 h2 h3 h4
    | _ => simp [ev] at h
  | cd x y ihx ihy =>
    intro code ρ K r Q G F env w a hok h hnd R hd hn hQ
    cases code with
    | cond o cx cy =>
      simp only [ev] at h
      simp only [noDst, Bool.and_eq_true] at hnd
      obtain ⟨sl, h, ho⟩ := opnd_run R Cur.nil rfl h
      have nq : ∀ {neg e : Bool}, sl.e = .nq neg e → ∃ b, a.eval o = .bool (neg != b) ∧ (b = true → e = true) := by
        intro neg e he
        rw [eval_eq, ← ho.1]
        rcases ho.2 with hu | ho
        · rw [he] at hu; cases hu
        · cases hs : slotOf o with
          | some s =>
            rw [hs] at ho
            have := ho.2.2.2.2
            rw [he] at this
            exact this.2
          | none =>
            rw [hs] at ho
            obtain ⟨t', m', x', he', _⟩ := ho
            rw [he] at he'
            cases he'
      split at h
      · rename_i e he
        obtain ⟨b, hb, hbe⟩ := nq he
        obtain ⟨h1, h2⟩ := agree_eq h
        refine wp_cond_split hb (fun ht => ?_) (fun hf => ?_)
        · have hbt : b = true := by simpa using ht
          rw [hbe hbt] at h2
          exact ihx cx hok.1 h2 hnd.1 R hd hn hQ
        · exact ihy cy hok.2 h1 hnd.2 R hd hn hQ
      · rename_i e he
        obtain ⟨b, hb, hbe⟩ := nq he
        obtain ⟨h1, h2⟩ := agree_eq h
        refine wp_cond_split hb (fun ht => ?_) (fun hf => ?_)
        · exact ihx cx hok.1 h1 hnd.1 R hd hn hQ
        · have hbt : b = true := by simpa using hf
          rw [hbe hbt] at h2
          exact ihy cy hok.2 h2 hnd.2 R hd hn hQ
      obtain ⟨t, y, hk, hv⟩ := plainV_run R ho h
      split at hk
      case h_2 => cases hk
      rename_i m v heq
      obtain ⟨rfl, rfl, hx⟩ : t = .bool ∧ .s = m ∧ HEq y v := by simpa using heq
      have hx := eq_of_heq hx
      subst hx
      have hb : a.eval o = .bool y := by
        rw [eval_eq]
        have h1 := hv.1
        simp only [unpack, Ty.agg, if_false, Bool.false_eq_true, rep, List.cons.injEq, and_true] at h1
        exact h1
      refine wp_cond_split hb (fun ht => ?_) (fun hf => ?_)
      · subst ht
        exact ihx cx hok.1 hk hnd.1 R hd hn hQ
      · subst hf
        exact ihy cy hok.2 hk hnd.2 R hd hn hQ
    | _ => simp [ev] at h
  | bk x ih =>
    intro code ρ K r Q G F env w a hok h hnd R hd hn hQ
    cases code with
    | block id cx =>
      simp only [ev] at h
      refine wp_block (ih cx hok h hnd R hd hn (fun ex env' a' w' G' F' h1 h2 h3 h4 => ?_))
      cases ex with
      | normal => exact hQ .normal env' a' w' G' F' h1 h2 h3 h4
      | ret => exact hQ .ret env' a' w' G' F' h1 h2 h3 h4
      | exit id' =>
        simp only at h1
        show if id' = id then _ else _
        split
        · rename_i he
          rw [if_pos he] at h1
          exact hQ .normal env' a' w' G' F' h1 h2 h3 h4
        · rename_i he
          rw [if_neg he] at h1
          exact hQ (.exit id') env' a' w' G' F' h1 h2 h3 h4
    | _ => simp [ev] at h
  | lp sh os f x ih =>
    intro code ρ K r Q G F env w a hok h hnd R hd hn hQ
    cases code with
    | loop cx =>
      simp only [ev] at h
      obtain ⟨s0, hs0, h⟩ := Option.bind_eq_some_iff.1 h
      obtain ⟨o, ho, h⟩ := Option.bind_eq_some_iff.1 h
      obtain ⟨G0, F0, R0⟩ := forget R hn hs0
      let Φ : Nat → Act → World → Prop := fun j a w => ∃ s G F, iterO f j s = some o ∧ RelX B G F [] (sh.enc n s) a.tmps.toList w ∧ a.defers = []
      classical
      refine wp_loop (fun a w => ∃ j, Φ j a w) (fun a w => if h : ∃ j, Φ j a w then Classical.choose (exists_least h) else 0) ⟨k, s0, G0, F0, ho, R0, hd⟩ ?_
      intro a w hI
      have hc := Classical.choose_spec (exists_least hI)
      simp only [dif_pos hI]
      generalize Classical.choose (exists_least hI) = j at hc
      obtain ⟨⟨s, G, F, hj, R, hd⟩, _⟩ := hc
      cases j with
      | zero => simp [iterO] at hj
      | succ j =>
        simp only [iterO] at hj
        obtain ⟨v, hv, hj⟩ := Option.bind_eq_some_iff.1 hj
        have hlen : (sh.enc n s).length = n := enc_len n sh s
        refine ih cx hok.2 ((hok.1 s).trans hv) hnd R hd hlen (fun ex env' a' w' G' F' h1 h2 h3 h4 => ?_)
        have leave : ∀ ex, (Outs.dec n env' ex os).map (Sum.inr (α := sh.S)) = some v → Q (exOf ex) a' w' := fun ex hdec => by
          obtain ⟨o', ho', rfl⟩ := Option.map_eq_some_iff.1 hdec
          simp only [Sum.elim_inr, Option.some.injEq] at hj
          subst hj
          obtain ⟨sh', s', k1, k2⟩ := outs_dec os o' ho'
          obtain ⟨G2, F2, R2⟩ := forget h2 h4 k1
          rw [k2] at h
          exact hQ ex _ a' w' G2 F2 h R2 h3 (enc_len n _ _)
        cases ex with
        | normal =>
          simp only [finL] at h1
          obtain ⟨s', hs', rfl⟩ := Option.map_eq_some_iff.1 h1
          simp only [Sum.elim_inl] at hj
          obtain ⟨G2, F2, R2⟩ := forget h2 h4 hs'
          have hI' : ∃ j, Φ j a' w' := ⟨j, s', G2, F2, hj, R2, h3⟩
          refine ⟨hI', ?_⟩
          simp only [dif_pos hI']
          have hc' := Classical.choose_spec (exists_least hI')
          generalize Classical.choose (exists_least hI') = j' at hc'
          rcases Nat.lt_or_ge j j' with hlt | hge
          · exact absurd ⟨s', G2, F2, hj, R2, h3⟩ (hc'.2 j hlt)
          · omega
        | exit id => exact leave (.exit id) h1
        | ret => exact leave .ret h1
    | _ => simp [ev] at h
  | sm sh os f x ih =>
    intro code ρ K r Q G F env w a hok h hnd R hd hn hQ
    have h : ((sh.dec n env).bind fun s => (f s).bind fun o => elimO n K os o) = some r := by
      cases code <;> exact h
    have hok : (∀ s, ev C k n x code (sh.enc n s) (fun ex e => Outs.dec n e ex os) = f s) ∧ AC.ok C k n x code := by
      cases code <;> exact hok
    obtain ⟨s0, hs0, h⟩ := Option.bind_eq_some_iff.1 h
    obtain ⟨o, ho, h⟩ := Option.bind_eq_some_iff.1 h
    obtain ⟨G0, F0, R0⟩ := forget R hn hs0
    refine ih code hok.2 ((hok.1 s0).trans ho) hnd R0 hd (enc_len n sh s0) (fun ex env' a' w' G' F' h1 h2 h3 h4 => ?_)
    obtain ⟨sh', s', k1, k2⟩ := outs_dec os o h1
    obtain ⟨G2, F2, R2⟩ := forget h2 h4 k1
    rw [k2] at h
    exact hQ ex _ a' w' G2 F2 h R2 h3 (enc_len n _ _)

end
end Go.VL

namespace Go.VL

def resM (tmps : Array Value) : ResultVar → Sem Value
  | .tmp t => pure (tmps.getD t undef)
  | .cell a t => do loadVar t (← asAddr (tmps.getD a undef))

theorem results_run {P : Program} {fn : Func} {tmps : Array Value} {w : World} {vs : List Value} (h : (fn.results.toList.mapM (resM tmps)).run P w = .ok vs w) : (results fn tmps).run P w = .ok (resV vs) w := by
  have e : results fn tmps = (fn.results.mapM (resM tmps)) >>= fun vs => pure (if h : vs.size = 1 then vs[0] else .tuple vs) := by
    unfold results
    have : (fun x : ResultVar => match x with | .tmp t => (pure (tmps.getD t undef) : Sem Value) | .cell a t => do loadVar t (← asAddr (tmps.getD a undef))) = resM tmps := by
      funext x
      cases x <;> rfl
    rw [← this]
    rfl
  rw [e, Array.mapM_eq_mapM_toList, map_eq_pure_bind, Sem.run_bind, Sem.run_bind, h]
  simp only [Result.andThen_ok, Sem.run_pure]
  match vs with
  | [] => rfl
  | [v] => rfl
  | _ :: _ :: _ => rfl

section
variable {P : Program} {C : Ctx} {B : Base} {G : Nat → Prop} {F : Nat → List Res} {H : List (TV × Value)} {env : Env} {w : World} {tmps : Array Value}
variable {ρ : Type} {r : ρ}

theorem tmps_getD (tmps : Array Value) (s : Nat) : tmps.getD s undef = tmps.toList.getD s undef := by
  simp [Array.getD, List.getD]
  by_cases h : s < tmps.size <;> simp [h]

theorem resOne_run (hT : TysOk P C) {x : ResultVar} {K : TV → Env → Option ρ} (R : RelX B G F H env tmps.toList w) (h : (resOne C x).run [] none env K = some r) :
    ∃ u v F' env', K u env' = some r ∧ RelX B G F' (H ++ [(u, v)]) env' tmps.toList w ∧ env'.length = env.length ∧ (resM tmps x).run P w = .ok v w := by
  cases x with
  | tmp s =>
    simp only [resOne, Rd.run_bind'] at h
    obtain ⟨sl, h, ho⟩ := opnd_run R Cur.nil rfl h
    obtain ⟨u, F1, env1, h, R1, hl1, _⟩ := take_run R ho h
    exact ⟨u, _, F1, env1, h, R1, hl1, by simp only [resM, Sem.run_pure, tmps_getD]; rfl⟩
  | cell s T =>
    simp only [resOne, Rd.run_bind', Rd.run_slot] at h
    split at h
    case h_2 => simp at h
    rename_i t m y he
    rw [Rd.run_bind'] at h
    obtain ⟨hgd, h⟩ := Rd.run_guard h
    simp only [Bool.and_eq_true, decide_eq_true_eq] at hgd
    obtain ⟨hTt, hno⟩ := hgd
    rw [Rd.run_bind'] at h
    obtain ⟨_, h⟩ := Rd.run_moveU h
    simp only [Rd.run_pure] at h
    obtain ⟨hlt, hroot⟩ := R.rootVal he
    have hr := hroot.1
    simp only [unpack, Ty.agg, if_false, Bool.false_eq_true] at hr
    obtain ⟨y', b, o, c, f, hy, hc, hF, hsp, hcc, hrep⟩ := hr
    cases hy
    simp only [List.cons.injEq, and_true] at hc
    have nd := R.nd s
    rw [hF] at nd
    have nd' := List.pairwise_cons.1 nd
    have R1 := R.setSlot (d := s) (e := .undef) (c := tmps.toList.getD s undef) (f := []) hlt trivial List.Pairwise.nil (fun _ _ r hr => by simp at hr) (fun r hr => by simp at hr) (fun _ _ h => by cases h) (fun _ _ _ _ _ _ h => by cases h)
    rw [set_getD_self] at R1
    have R2 := R1.hold (v := ⟨t, m, y⟩) (c := pack t c) (f := f) (vrel_pack hrep) nd'.2 (fun j => ?_) (fun z hz => R.ok s z (by rw [hF]; simp [hz]))
    · refine ⟨⟨t, m, y⟩, pack t c, _, _, h, R2, Env.length_put _ _, ?_⟩
      have hv : tmps.getD s undef = .pointer (some ⟨b, o, none⟩) := by rw [tmps_getD]; exact hc
      simp only [resM, hv, asAddr, Sem.run_bind, Sem.run_pure, Result.andThen_ok]
      exact run_loadVar (tyF (hT _ _ hTt)) (rep_len _ _ _ _ _ hrep) hcc
    · unfold upd
      split
      · intro _ _ q hq; simp at hq
      · rename_i hj
        exact fun z hz q hq => R.ap s j (Ne.symm hj) z (by rw [hF]; simp [hz]) q hq

theorem resR_run (hT : TysOk P C) : ∀ (rs : List ResultVar) (l : List (Ty × Md)) {G : Nat → Prop} {F : Nat → List Res} {H : List (TV × Value)} {env : Env} {K : List TV → Env → Option ρ}, RelX B G F H env tmps.toList w → (resR C rs l).run [] none env K = some r →
    ∃ us vs G' F' env', K us env' = some r ∧ (∀ b, G b → G' b) ∧ RelX B G' F' (H ++ us.zip vs) env' tmps.toList w ∧ env'.length = env.length ∧ us.map (·.m) = l.map (·.2) ∧ us.length = vs.length ∧ (rs.mapM (resM tmps)).run P w = .ok vs w
  | [], [], G, F, H, env, K, R, h => by
    simp only [resR, Rd.run_pure] at h
    exact ⟨[], [], G, F, env, h, fun _ h => h, by simpa using R, rfl, rfl, rfl, rfl⟩
  | x :: rs, (t, m) :: l, G, F, H, env, K, R, h => by
    simp only [resR, Rd.run_bind'] at h
    obtain ⟨u, v, F1, env1, h, R1, hl1, hm1⟩ := resOne_run hT R h
    obtain ⟨hco, h⟩ := coe_run rfl h
    obtain ⟨G2, F2, hG2, R2⟩ := R1.coe hco
    obtain ⟨us, vs, G', F', env', k1, k2, k3, k4, k5, k6, k7⟩ := resR_run hT rs l R2 h
    simp only [Rd.run_pure] at k1
    refine ⟨_, v :: vs, G', F', env', k1, fun b hb => k2 b (hG2 b hb), by simpa using k3, k4.trans hl1, by simp [k5], by simp [k6], ?_⟩
    rw [List.mapM_cons, Sem.run_bind, hm1]
    simp only [Result.andThen_ok, Sem.run_bind, k7, Sem.run_pure]
  | [], _ :: _, _, _, _, _, _, _, h => by simp [resR] at h
  | _ :: _, [], _, _, _, _, _, _, h => by simp [resR] at h

/-- the slots of the pointers, from i on -/
def ioIdx : List PK → Nat → List Nat
  | [], _ => []
  | p :: ps, i => match p.io with | true => i :: ioIdx ps (i + 1) | false => ioIdx ps (i + 1)

theorem iosR_run : ∀ (ps : List PK) (i : Nat) {G : Nat → Prop} {F : Nat → List Res} {H : List (TV × Value)} {env : Env} {K : List TV → Env → Option ρ} {ts : List Value}, RelX B G F H env ts w → (iosR ps i).run [] none env K = some r →
    ∃ ws G' F' env', K ws env' = some r ∧ (∀ b, G b → G' b) ∧ RelX B G' F' (H ++ (ws.map ptrTV).zip ((ioIdx ps i).map fun j => ts.getD j undef)) env' ts w ∧ ws.length = (ioIdx ps i).length ∧ ws.map (·.m) = (ps.filter (·.io)).map (·.m') ∧ ∀ j ∈ ioIdx ps i, ∀ l ∈ B.lents, l.1 = j → ts.getD j undef = .pointer (some ⟨l.2.1, l.2.2, none⟩)
  | [], i, G, F, H, env, K, ts, R, h => by
    simp only [iosR, Rd.run_pure] at h
    exact ⟨[], G, F, env, h, fun _ h => h, by simpa using R, rfl, rfl, fun j hj => by simp [ioIdx] at hj⟩
  | p :: ps, i, G, F, H, env, K, ts, R, h => by
    cases hio : p.io with
    | false =>
      simp only [iosR, hio] at h
      obtain ⟨ws, G', F', env', k1, k2, k3, k4, k5, k6⟩ := iosR_run ps (i + 1) R h
      exact ⟨ws, G', F', env', k1, k2, by simpa [ioIdx, hio] using k3, by simpa [ioIdx, hio] using k4, by simpa [hio] using k5, by simpa [ioIdx, hio] using k6⟩
    | true =>
      simp only [iosR, hio, Rd.run_bind', Rd.run_slot] at h
      split at h
      case h_2 => simp at h
      rename_i t m x he
      rw [Rd.run_bind'] at h
      obtain ⟨_, h⟩ := Rd.run_moveU h
      rw [Rd.run_bind'] at h
      obtain ⟨hco, h⟩ := coe_run rfl h
      rw [Rd.run_bind'] at h
      obtain ⟨hlt, hroot⟩ := R.rootVal he
      have R1 := R.moveOut hlt hroot
      obtain ⟨G2, F2, hG2, R2⟩ := R1.coe hco
      obtain ⟨ws, G', F', env', k1, k2, k3, k4, k5, k6⟩ := iosR_run ps (i + 1) R2 h
      refine ⟨_, G', F', env', k1, fun b hb => k2 b (hG2 b hb), ?_, by simp [ioIdx, hio, k4], by simp [hio, k5], fun j hj l hl hlj => ?_⟩
      · simpa [ioIdx, hio, ptrTV] using k3
      · simp only [ioIdx, hio, List.mem_cons] at hj
        rcases hj with hj | hj
        · rw [hj] at hlj ⊢
          rw [← hlj]
          exact R.lent l hl t (.o m) (some x) (by rw [hlj]; exact he)
        · exact k6 j hj l hl hlj

theorem enc_dec : ∀ (l : List (Ty × Md)) (vs : List TV) (x : denAll (l.map (·.1))), decAll (l.map (·.1)) vs = some x → vs.map (·.m) = l.map (·.2) → encAll l x = vs
  | [], [], _, _, _ => rfl
  | (t, m) :: l, v :: vs, x, h, hm => by
    obtain ⟨y, hy, h⟩ := Option.bind_eq_some_iff.1 h
    obtain ⟨r', hr, rfl⟩ := Option.map_eq_some_iff.1 h
    simp only [List.map_cons, List.cons.injEq] at hm
    obtain ⟨tv, mv, xv⟩ := v
    obtain ⟨e, he⟩ := castV_eq hy
    have e' : tv = t := e
    subst e'
    have he' : xv = y := he
    subst he'
    simp only at hm
    obtain ⟨rfl, hm⟩ := hm
    simp only [encAll, enc_dec l vs r' hr hm]
  | [], _ :: _, _, h, _ => by simp [decAll] at h
  | _ :: _, [], _, h, _ => by simp [decAll] at h

end
end Go.VL

namespace Go.VL
section
variable {P : Program} {C : Ctx} {B : Base} {G : Nat → Prop} {F : Nat → List Res} {w : World}

/-- the start: nothing is in use -/
theorem start_rel {ts : List Value} {n : Nat} (hn : ts.length = n) (w : World) (G : Nat → Prop) (R : List Res) (L : List (Nat × Nat × Nat)) (hG : ∀ b, G b → b < w.heap.size) :
    RelX ⟨w, G, R, L⟩ G (fun _ => []) [] (List.replicate n ⟨0, 0, .undef⟩) ts w := by
  have hu : ∀ i, Env.get (List.replicate n ⟨0, 0, .undef⟩) i = ⟨0, 0, .undef⟩ := fun i => by
    simp only [Env.get, List.getD]
    by_cases hi : i < n
    · simp [hi]
    · simp [List.getElem?_eq_none (by simpa using Nat.le_of_not_lt hi : (List.replicate n (⟨0, 0, .undef⟩ : Sl)).length ≤ i)]
  refine { len := by simp [hn], slot := fun i hi => by rw [hu]; trivial, held := fun k h hk => by simp at hk, out := fun _ _ => rfl, nd := fun _ => List.Pairwise.nil, ap := fun _ _ _ _ h => by simp at h,
           ok := fun _ _ h => by simp at h, g0 := fun _ h => h, gl := fun b hb => ⟨hG b hb, .inl hb⟩, turn := Turn.refl _ w, chain := fun i g e h => ?_, lent := fun l _ t m x h => ?_ }
  · rw [hu] at h; cases h
  · rw [hu] at h; cases h

/-- the parameters come into use -/
theorem param_fill {ts : List Value} {L : List (Nat × Nat × Nat)} {w0 : World} {G0 : Nat → Prop} {R0 : List Res} (hL : ∀ l ∈ L, ts.getD l.1 undef = .pointer (some ⟨l.2.1, l.2.2, none⟩)) :
    ∀ (ps : List PK) (s : denAll (ps.map (·.t))) (as : List TV) (vs : List Value) (R : List Res) (i : Nat) {E : Env} {F : Nat → List Res}, decAll (ps.map (·.t)) as = some s → as.map (·.m) = ps.map (·.m) →
    tupRel G w (argTVs ps as) vs R → ND R → (∀ z ∈ R, ¬ G z.blk ∧ z.blk < w.heap.size ∧ (w0.heap.size ≤ z.blk ∨ ∃ q ∈ R0, q.blk = z.blk ∧ q.lo ≤ z.lo ∧ z.hi ≤ q.hi)) → RelX ⟨w0, G0, R0, L⟩ G F [] E ts w →
    (∀ j, i ≤ j → E.get j = ⟨0, 0, .undef⟩) → (∀ j, Apart R (F j)) → i + ps.length ≤ E.length → (∀ j, j < ps.length → ts.getD (i + j) undef = vs.getD j undef) →
    ∃ F', RelX ⟨w0, G0, R0, L⟩ G F' [] (paramsOn ps s i E) ts w
  | [], _, _, _, _, _, E, F, _, _, _, _, _, RX, _, _, _, _ => ⟨F, RX⟩
  | p :: ps, s, [], _, _, _, _, _, h, _, _, _, _, _, _, _, _, _ => by simp [decAll] at h
  | p :: ps, s, a :: as, [], _, _, _, _, _, _, h, _, _, _, _, _, _, _ => h.elim
  | p :: ps, s, a :: as, v :: vs, R, i, E, F, hdec, hm, ht, nd, ok, RX, hE, hap, hlen, hts => by
    obtain ⟨y, hy, h⟩ := Option.bind_eq_some_iff.1 hdec
    obtain ⟨s', hs', rfl⟩ := Option.map_eq_some_iff.1 h
    simp only [List.map_cons, List.cons.injEq] at hm
    obtain ⟨ta, ma, xa⟩ := a
    obtain ⟨e, he⟩ := castV_eq hy
    have e' : p.t = ta := e.symm
    obtain ⟨io, tp, mp, mp'⟩ := p
    simp only at e'
    subst e'
    have he' : xa = y := he
    subst he'
    have hmm : ma = mp := hm.1
    subst hmm
    obtain ⟨f1, f2, hv, ht, rfl⟩ := ht
    obtain ⟨n1, n2, n3⟩ := ND.append.1 nd
    have hi : i < E.length := by simp at hlen; omega
    have hv0 : ts.getD i undef = v := by have := hts 0 (by simp); simpa using this
    have hEi := hE i (Nat.le_refl _)
    have next : ∀ {t : Ty} {m : Md} {x : t.den}, vrel G w t m x v f1 → ∃ F', RelX ⟨w0, G0, R0, L⟩ G F' [] (paramsOn ps s' (i + 1) (E.set i ⟨0, 0, .val t m x⟩)) ts w := by
      intro t m x hv
      have R1 := RX.fill (d := i) (t := t) (m := m) (x := x) (f := f1) hi (by rw [hEi]) (by rw [hv0]; exact hv) n1 (fun j _ z hz q hq => hap j z (by simp [hz]) q hq) (fun z hz => ok z (by simp [hz]))
        (fun l hl hli _ _ _ _ => by rw [← hli]; exact hL l hl)
      rw [hEi] at R1
      refine param_fill hL ps s' as vs f2 (i + 1) hs' hm.2 ht n2 (fun z hz => ok z (by simp [hz])) R1 (fun j hj => ?_) (fun j z hz q hq => ?_) (by simp at hlen ⊢; omega) (fun j hj => ?_)
      · have hne : i ≠ j := by omega
        have := hE j (by omega)
        simpa [Env.get, List.getD, List.getElem?_set_ne hne] using this
      · unfold upd at hq
        split at hq
        · exact (n3 q hq z hz).symm
        · exact hap j z (by simp [hz]) q hq
      · have := hts (j + 1) (by simp; omega)
        rw [show i + 1 + j = i + (j + 1) by omega]
        simpa using this
    cases io with
    | true => exact next hv
    | false => exact next hv

end
end Go.VL

namespace Go.VL
section
variable {P : Program} {C : Ctx} {G : Nat → Prop} {w : World}

theorem tupRel_append : ∀ (e1 : List TV) (v1 : List Value) {e2 : List TV} {v2 : List Value} {f : List Res}, e1.length = v1.length → tupRel G w (e1 ++ e2) (v1 ++ v2) f → ∃ f1 f2, tupRel G w e1 v1 f1 ∧ tupRel G w e2 v2 f2 ∧ f = f1 ++ f2
  | [], [], e2, v2, f, _, h => ⟨[], f, rfl, h, rfl⟩
  | e :: e1, v :: v1, e2, v2, f, hl, h => by
    obtain ⟨g1, g2, hv, h, rfl⟩ := h
    obtain ⟨f1, f2, h1, h2, rfl⟩ := tupRel_append e1 v1 (by simpa using hl) h
    exact ⟨g1 ++ f1, f2, ⟨g1, f1, hv, h1, rfl⟩, h2, by simp⟩
  | [], _ :: _, _, _, _, hl, _ => by simp at hl
  | _ :: _, [], _, _, _, hl, _ => by simp at hl

theorem argTVs_len : ∀ (ps : List PK) (as : List TV), as.length = ps.length → (argTVs ps as).length = ps.length
  | [], [], _ => rfl
  | p :: ps, a :: as, h => by simp only [argTVs, List.length_cons]; rw [argTVs_len ps as (by simpa using h)]
  | [], _ :: _, h => by simp at h
  | _ :: _, [], h => by simp at h

theorem lents_of : ∀ (ps : List PK) (as : List TV) (vs : List Value) (R : List Res) (i : Nat), as.length = ps.length → tupRel G w (argTVs ps as) vs R →
    ∃ L : List (Nat × Nat × Nat), L.map (·.1) = ioIdx ps i ∧ ∀ l ∈ L, ∃ j, l.1 = i + j ∧ j < ps.length ∧ vs.getD j undef = .pointer (some ⟨l.2.1, l.2.2, none⟩)
  | [], _, _, _, i, _, _ => ⟨[], rfl, fun l hl => by simp at hl⟩
  | p :: ps, [], _, _, _, h, _ => by simp at h
  | p :: ps, a :: as, [], _, _, _, h => h.elim
  | p :: ps, a :: as, v :: vs, R, i, hl, h => by
    obtain ⟨f1, f2, hv, h, rfl⟩ := h
    obtain ⟨L, h1, h2⟩ := lents_of ps as vs f2 (i + 1) (by simpa using hl) h
    have h2' : ∀ l ∈ L, ∃ j, l.1 = i + j ∧ j < (p :: ps).length ∧ (v :: vs).getD j undef = .pointer (some ⟨l.2.1, l.2.2, none⟩) := fun l hl => by
      obtain ⟨j, k1, k2, k3⟩ := h2 l hl
      exact ⟨j + 1, by omega, by simp; omega, by simpa using k3⟩
    obtain ⟨io, tp, mp, mp'⟩ := p
    cases io with
    | false => exact ⟨L, by simp [ioIdx, h1], h2'⟩
    | true =>
      have hv : vrel G w (.ptr a.t) (.o a.m) (some a.x) v f1 := hv
      have hr := hv.1
      simp only [unpack, Ty.agg, if_false, Bool.false_eq_true] at hr
      obtain ⟨y, b, o, c, f, _, hc, _⟩ := hr
      simp only [List.cons.injEq, and_true] at hc
      refine ⟨(i, b, o) :: L, by simp [ioIdx, h1], fun l hl => ?_⟩
      rcases List.mem_cons.1 hl with rfl | hl
      · exact ⟨0, rfl, by simp, by simpa using hc⟩
      · exact h2' l hl

theorem ioVals_idx : ∀ (ps : List PK) (vs : List Value) (i : Nat) (V : Nat → Value), vs.length = ps.length → (∀ j, j < ps.length → i + j ∈ ioIdx ps i → V (i + j) = vs.getD j undef) → ioVals ps vs = (ioIdx ps i).map V
  | [], _, _, _, _, _ => by simp [ioVals, ioIdx]
  | p :: ps, [], _, _, h, _ => by simp at h
  | p :: ps, v :: vs, i, V, h, hV => by
    have tail : (∀ j, i + 1 + j ∈ ioIdx ps (i + 1) → i + (j + 1) ∈ ioIdx (p :: ps) i) → ioVals ps vs = (ioIdx ps (i + 1)).map V := fun hin =>
      ioVals_idx ps vs (i + 1) V (by simpa using h) (fun j hj hm => by
        have := hV (j + 1) (by simp; omega) (hin j hm)
        rw [show i + 1 + j = i + (j + 1) by omega]
        simpa using this)
    cases hio : p.io with
    | false =>
      simp only [ioVals, ioIdx, hio]
      exact tail (fun j hj => by simp only [ioIdx, hio]; rwa [show i + (j + 1) = i + 1 + j by omega])
    | true =>
      simp only [ioVals, ioIdx, hio, List.map_cons]
      rw [tail (fun j hj => by simp only [ioIdx, hio]; rw [show i + (j + 1) = i + 1 + j by omega]; simp [hj])]
      have := hV 0 (by simp) (by simp [ioIdx, hio])
      congr 1
      simpa using this.symm

end
end Go.VL

namespace Go.VL
section
variable {P : Program} {C : Ctx}

/-- a function does what its native function says -/
theorem fn_ok (hm : P.follows .mixedOrders = true) (hT : TysOk P C) (hE : EqsOk P C) (hTab : ∀ f te, C.tab f = some te → CallOk P f te) {f : Nat} {fn : Func} {code : Code} {g : Sig} {k : Nat} {Fn : g.S → Option g.R}
    (hf : P.funcs[f]? = some fn) (hb : fn.body = some code) (hname : (fn.name == "runtime.NumGoroutine") = false) (hlen : g.ps.length ≤ fn.ntmps) 
    (hnd : noDst (ioIdx g.ps 0) code = true) (hF : ∀ s q, Fn s = some q → ∃ ac, AC.ok C k fn.ntmps ac code ∧ fnEv C k g fn code ac s = some q) : CallOk P f ⟨g, Fn⟩ := by
  refine ⟨⟨fn, hf, by rw [hb]; rfl, hname⟩, fun w G as s vs R q hdec hmk ht nd ok hG hq => ?_⟩
  simp only at hdec hmk ht hq ⊢
  have has : as.length = g.ps.length := by have := congrArg List.length hmk; simpa using this
  have hvs : vs.length = g.ps.length := by rw [← tupRel_len _ _ _ ht, argTVs_len _ _ has]
  obtain ⟨L, hL1, hL2⟩ := lents_of g.ps as vs R 0 has ht
  let tmps : Array Value := vs.toArray ++ Array.replicate (fn.ntmps - vs.toArray.size) undef
  have htl : tmps.toList = vs ++ List.replicate (fn.ntmps - vs.length) undef := by simp [tmps]
  have htn : tmps.toList.length = fn.ntmps := by rw [htl]; simp; omega
  have hget : ∀ j, j < g.ps.length → tmps.toList.getD j undef = vs.getD j undef := fun j hj => by
    rw [htl]
    simp [List.getD, List.getElem?_append_left (by omega : j < vs.length)]
  have hL3 : ∀ l ∈ L, tmps.toList.getD l.1 undef = .pointer (some ⟨l.2.1, l.2.2, none⟩) := fun l hl => by
    obtain ⟨j, h1, h2, h3⟩ := hL2 l hl
    rw [h1, Nat.zero_add, hget j h2]
    exact h3
  obtain ⟨F0, R0⟩ := param_fill (w := w) (G := G) (ts := tmps.toList) (L := L) (w0 := w) (G0 := G) (R0 := R) hL3 g.ps s as vs R 0 hdec hmk ht nd
    (fun z hz => ⟨(ok z hz).1, (ok z hz).2, .inr ⟨z, hz, rfl, Nat.le_refl _, Nat.le_refl _⟩⟩) (start_rel htn w G R L hG)
    (fun j _ => by
      simp only [Env.get, List.getD]
      by_cases hi : j < fn.ntmps
      · simp [hi]
      · simp [List.getElem?_eq_none (by simpa using Nat.le_of_not_lt hi : (List.replicate fn.ntmps (⟨0, 0, .undef⟩ : Sl)).length ≤ j)])
    (fun j z _ q hq => by simp at hq) (by simpa using hlen) (fun j hj => by rw [Nat.zero_add]; exact hget j hj)
  obtain ⟨ac, hok, hev⟩ := hF s q hq
  unfold fnEv at hev
  refine calls_of_wp hf hb (ev_sound hm hT hE hTab (B := ⟨w, G, R, L⟩) (a := { tmps := tmps, defers := [] }) ac code hok hev (by simpa [hL1] using hnd) R0 rfl (R0.len.trans htn) ?_)
  intro ex env' a' w' G' F' hK R' hd' _
  have key : finR C g fn.results.toList .normal env' = some q → a'.defers = [] ∧ ∃ v, (results fn a'.tmps).run P w' = .ok v w' ∧ ∃ v', Ending.returned v = .returned v' ∧ RetOk g.rs.length G w R (ioVals g.ps vs) (encAll g.outs q) v' w' := by
    intro hK
    refine ⟨hd', ?_⟩
    simp only [finR] at hK
    obtain ⟨us, rvs, G2, F2, env2, hK, hG2, R2, _, hm2, hl2, hres⟩ := resR_run hT _ _ R' hK
    obtain ⟨ws, G3, F3, env3, hK, hG3, R3, hl3, hm3, hv3⟩ := iosR_run g.ps 0 R2 hK
    have henc := enc_dec g.outs (us ++ ws) q hK (by simp [Sig.outs, hm2, hm3])
    have hlu : us.length = g.rs.length := by have := congrArg List.length hm2; simpa using this
    have hH := held_tup (F := F3) (G := G3) (w := w') _ env3.length R3.held
    rw [List.nil_append, List.map_append, List.map_append, List.map_fst_zip (by omega), List.map_snd_zip (by omega), List.map_fst_zip (by simp [hl3]), List.map_snd_zip (by simp [hl3])] at hH
    obtain ⟨fr, fi, h1, h2, h3⟩ := tupRel_append us rvs hl2 hH
    refine ⟨_, results_run hres, _, rfl, G3, rvs, fr, fi, fun b hb => R3.g0 b hb, R3.gl, R3.turn, rfl, ?_, ?_, ?_, ?_⟩
    · rw [henc, ← hlu]; simpa using h1
    · rw [henc, ← hlu, List.drop_left]
      have hio : ioVals g.ps vs = (ioIdx g.ps 0).map fun j => a'.tmps.toList.getD j undef := by
        refine ioVals_idx g.ps vs 0 _ hvs (fun j hj hmem => ?_)
        rw [← hL1] at hmem
        obtain ⟨l, hl, hlj⟩ := List.mem_map.1 hmem
        have hlj' : l.1 = 0 + j := hlj
        rw [hv3 (0 + j) (by rw [← hL1]; exact hmem) l hl hlj', ← hL3 l hl, hlj', Nat.zero_add]
        exact hget j hj
      rw [hio]
      exact h2
    · rw [← h3]; exact flatF_nd R3.nd R3.ap _ _
    · intro z hz
      rw [← h3] at hz
      obtain ⟨j, _, hj⟩ := mem_flatF _ _ hz
      exact R3.ok j z hj
  cases ex with
  | exit id => simp [finR] at hK
  | normal => exact key hK
  | ret => exact key hK

end
end Go.VL

namespace Go.VL
open Go.RowKit

/-- a law's function, called with values that nobody writes -/
theorem call_law {P : Program} {f : Nat} {te : TE} (hok : CallOk P f te) {w : World} {as : List TV} {s : te.sig.S} {vs : List Value} {q : te.sig.R} (hd : decAll (te.sig.ps.map (·.t)) as = some s) (hm : as.map (·.m) = te.sig.ps.map (·.m))
    (ht : tupRel (fun b => b < w.heap.size) w (argTVs te.sig.ps as) vs []) (hF : te.F s = some q) (hn : te.sig.rs.length = 1) (hq : encAll te.sig.outs q = [⟨.bool, .s, true⟩]) :
    Calls P f vs.toArray w fun e w' => e = .returned (.bool true) ∧ Below w.heap.size w w' := by
  refine Calls.mono (hok.2 w _ as s vs [] q hd hm ht List.Pairwise.nil (fun z hz => by simp at hz) (fun _ h => h) hF) ?_
  rintro e w' ⟨v, rfl, G', rv, fr, fi, h1, h2, h3, rfl, h4, h5, h6, h7⟩
  have hX : ∀ b i, ¬ cellsOf [] b i := by rintro b i ⟨z, hz, _⟩; simp at hz
  refine ⟨?_, h3.os, h3.tape, h3.output, h3.size, fun k hk => h3.block k hk (fun i => hX k i)⟩
  rw [hq, hn] at h4
  match rv, h4 with
  | [x], h4 =>
    obtain ⟨f1, f2, hv, _, _⟩ := h4
    have hr := hv.1
    simp only [unpack, Ty.agg, if_false, Bool.false_eq_true, rep, List.cons.injEq, and_true] at hr
    rw [hr.1]
    rfl

theorem int_arg {G : Nat → Prop} {w : World} (k : IntKind) (n : Int) : vrel G w (.int k) .s n (.int k n) [] := ⟨⟨rfl, rfl⟩, rfl⟩
theorem bool_arg {G : Nat → Prop} {w : World} (b : Bool) : vrel G w .bool .s b (.bool b) [] := ⟨⟨rfl, rfl⟩, rfl⟩

/-- a slice of whole numbers -/
theorem ints_arg {w : World} (k : IntKind) {a : Option Addr} {len cap : Nat} {zs : List Int}
    (h : (a = none ∧ len = 0 ∧ cap = 0 ∧ zs = []) ∨ ∃ x, a = some x ∧ len ≤ cap ∧ zs.length = cap ∧ ∀ i, i < zs.length → w.cell? (x.add i) = some (.int k (zs.getD i 0))) :
    vrel (fun b => b < w.heap.size) w (.list (.int k)) .s (zs.take len) (.slice a len cap) [] := by
  refine ⟨?_, by simp [pack, unpack, Ty.agg]⟩
  simp only [unpack, Ty.agg, if_false, Bool.false_eq_true]
  rcases h with ⟨rfl, rfl, rfl, rfl⟩ | ⟨x, rfl, hlc, hl, hc⟩
  · exact ⟨⟨none, 0, rfl, Nat.le_refl _, fun i hi => by simp at hi⟩, rfl⟩
  · have hlen : (zs.take len).length = len := by simp; omega
    refine ⟨⟨some x, cap, by rw [hlen], by rw [hlen]; exact hlc, fun i hi => ?_⟩, rfl⟩
    rw [hlen] at hi
    have hi' : i < zs.length := by omega
    have hcell := hc i hi'
    have hb := World.block_lt_of_cell? w _ hcell
    rw [add_block] at hb
    refine ⟨x, [.int k (zs.getD i 0)], rfl, hb, ?_, ?_, rfl⟩
    · intro j v hj
      cases j with
      | zero => simp at hj; subst hj; rw [add_add]; simpa [Ty.sz] using hcell
      | succ j => simp at hj
    · simp [List.getD, hi']

end Go.VL

namespace Go.VL

def wfT : (t : Ty) → t.den → Prop
  | .int k, x => (Lit.int k x).wf = true
  | .pair a b, x => wfT a x.1 ∧ wfT b x.2
  | .list a, x => x.length ≤ maxLen ∧ ∀ y ∈ x, wfT a y
  | .arr _ a, x => ∀ y ∈ x, wfT a y
  | _, _ => True

def Ty.hasPtr : Ty → Bool
  | .ptr _ | .fn => true
  | .pair a b => a.hasPtr || b.hasPtr
  | .list a | .arr _ a => a.hasPtr
  | _ => false

section
variable {P : Program} {C : Ctx} {H : Type} {enc : TypeId × Value → H} {w : World} {base : Nat} {spare : Nat → Bool} {held : Bool}

theorem cellsOf_eq (hT : TysOk P C) {T : TypeId} {t : Ty} (h : C.ty T = some t) : P.cellsOf T = t.sz := by
  have := hT T t h
  unfold tyChk at this
  split at this
  case h_2 => cases this
  rename_i i d hi _
  simp only [Bool.and_eq_true, beq_iff_eq] at this
  simp [Program.cellsOf, hi, this.1.1.1]

theorem cells_at {a : Addr} {n : Nat} {cs : List Value} (h : w.cells? base a n = some cs) : cellsAt w a cs ∧ cs.length = n := by
  unfold World.cells? at h
  split at h
  case isFalse => cases h
  have hl : cs.length = n := by simpa using mapM_some_length h
  refine ⟨fun j v hj => ?_, hl⟩
  have hlt := (List.getElem?_eq_some_iff.1 hj).1
  have := mapM_some_get h j j (List.getElem?_range (by omega))
  rw [← hj, ← this]

theorem trod_both (hT : TysOk P C) : ∀ (t : Ty), (∀ (T : TypeId) (fuel : Nat) (cs : List Value) (x : DataW H × List MemPlace), C.ty T = some t → t.hasPtr = false → DataW.trod enc P w base spare held fuel T cs = some x →
    ∃ y : t.den, rep (fun b => b < w.heap.size) w t .s y cs [] ∧ wfT t y) ∧
    (∀ (fs : List Field) (off n : Nat) (cs : List Value), fieldsChk C.ty fs off t = true → t.hasPtr = false → cs.length = off + t.sz → (∀ f ∈ fs, ∃ x, DataW.trod enc P w base spare held n f.type ((cs.drop f.offset).take (P.cellsOf f.type)) = some x) →
      ∃ y : t.den, rep (fun b => b < w.heap.size) w t .s y (cs.drop off) [] ∧ wfT t y) := by
  intro t
  induction t with
  | int k =>
    refine ⟨fun T fuel cs x hC _ h => ?_, fun fs off n cs h => by cases fs <;> simp [fieldsChk] at h⟩
    obtain ⟨d, hd, hk⟩ := (tyF (hT _ _ hC)).und
    cases d <;> simp only [descChk] at hk <;> try (cases hk; done)
    simp only [beq_iff_eq] at hk
    subst hk
    obtain ⟨n, rfl, _, hw⟩ := DataW.trod_int hd h
    exact ⟨n, ⟨rfl, rfl⟩, hw⟩
  | bool =>
    refine ⟨fun T fuel cs x hC _ h => ?_, fun fs off n cs h => by cases fs <;> simp [fieldsChk] at h⟩
    obtain ⟨d, hd, hk⟩ := (tyF (hT _ _ hC)).und
    cases d <;> simp only [descChk] at hk <;> try (cases hk; done)
    obtain ⟨b, rfl, _⟩ := DataW.trod_bool hd h
    exact ⟨b, ⟨rfl, rfl⟩, trivial⟩
  | str =>
    refine ⟨fun T fuel cs x hC _ h => ?_, fun fs off n cs h => by cases fs <;> simp [fieldsChk] at h⟩
    obtain ⟨d, hd, hk⟩ := (tyF (hT _ _ hC)).und
    cases d <;> simp only [descChk] at hk <;> try (cases hk; done)
    obtain ⟨s, rfl, _⟩ := DataW.trod_string hd h
    exact ⟨bytesV s, ⟨⟨s, rfl, rfl⟩, rfl⟩, trivial⟩
  | list a ih =>
    refine ⟨fun T fuel cs x hC hp h => ?_, fun fs off n cs h => by cases fs <;> simp [fieldsChk] at h⟩
    obtain ⟨d, hd, hk⟩ := (tyF (hT _ _ hC)).und
    cases d <;> simp only [descChk] at hk <;> try (cases hk; done)
    rename_i e
    simp only [Bool.and_eq_true] at hk
    have he : C.ty e = some a := by
      have hk1 := hk.1
      split at hk1
      · rename_i a' ha; simp only [decide_eq_true_eq] at hk1; rw [ha, hk1]
      · cases hk1
    rcases DataW.trod_slice hd h with ⟨rfl, _⟩ | ⟨A, len, cap, elems, rest, n, _, rfl, _, _, hlc, hm, hlen, hel, _⟩
    · exact ⟨[], ⟨⟨none, 0, rfl, Nat.le_refl _, fun i hi => by simp at hi⟩, rfl⟩, ⟨by simp, fun y hy => by simp at hy⟩⟩
    · have each : ∀ i, ∃ y : a.den, i < len → (∃ c, cellsAt w (A.add (i * a.sz)) c ∧ A.block < w.heap.size ∧ rep (fun b => b < w.heap.size) w a .s y c []) ∧ wfT a y := fun i => by
        by_cases hi : i < len
        · have h1 := hel i hi
          have hsome : ∃ z, elems[i]? = some z := ⟨elems[i]'(by omega), by simp⟩
          obtain ⟨z, hz⟩ := hsome
          rw [hz] at h1
          obtain ⟨c, hc, htr⟩ := Option.bind_eq_some_iff.1 h1
          rw [cellsOf_eq hT he] at hc
          obtain ⟨hcc, hcl⟩ := cells_at hc
          obtain ⟨y, hy, hw⟩ := ih.1 e n c z he hp htr
          refine ⟨y, fun _ => ⟨⟨c, hcc, ?_, hy⟩, hw⟩⟩
          have hsz : 0 < c.length := by rw [hcl]; have := hk.2; simp at this; omega
          have := World.block_lt_of_cell? w _ (hcc 0 c[0] (List.getElem?_eq_getElem hsz))
          rw [add_block, add_block] at this
          exact this
        · exact ⟨a.zero, fun h => absurd h hi⟩
      obtain ⟨Y, hY⟩ := Classical.axiomOfChoice each
      refine ⟨(List.range len).map Y, ⟨⟨some A, cap, by simp, by simpa using hlc, fun i hi => ?_⟩, rfl⟩, ?_, ?_⟩
      · have hi' : i < len := by simpa using hi
        obtain ⟨⟨c, h1, h2, h3⟩, _⟩ := hY i hi'
        exact ⟨A, c, rfl, h2, h1, by simpa using h3⟩
      · simp; omega
      · intro y hy
        obtain ⟨i, hi, rfl⟩ := List.mem_map.1 hy
        exact (hY i (by simpa using hi)).2
  | ptr a => exact ⟨fun T fuel cs x _ hp => by simp [Ty.hasPtr] at hp, fun fs off n cs h => by cases fs <;> simp [fieldsChk] at h⟩
  | fn => exact ⟨fun T fuel cs x _ hp => by simp [Ty.hasPtr] at hp, fun fs off n cs h => by cases fs <;> simp [fieldsChk] at h⟩
  | unit =>
    refine ⟨fun T fuel cs x hC _ h => ?_, fun fs off n cs _ _ hl _ => ⟨(), ⟨List.drop_eq_nil_of_le (by simp [Ty.sz] at hl; omega), rfl⟩, trivial⟩⟩
    obtain ⟨d, hd, hk⟩ := (tyF (hT _ _ hC)).und
    cases d <;> simp only [descChk] at hk <;> try (cases hk; done)
    obtain ⟨xs, n, _, _, hl, _⟩ := DataW.trod_struct hd h
    rw [cellsOf_eq hT hC] at hl
    exact ⟨(), ⟨List.eq_nil_of_length_eq_zero hl, rfl⟩, trivial⟩
  | arr n a ih =>
    refine ⟨fun T fuel cs x hC hp h => ?_, fun fs off n cs h => by cases fs <;> simp [fieldsChk] at h⟩
    obtain ⟨d, hd, hk⟩ := (tyF (hT _ _ hC)).und
    cases d <;> simp only [descChk] at hk <;> try (cases hk; done)
    rename_i n' e
    simp only [Bool.and_eq_true, beq_iff_eq] at hk
    obtain ⟨⟨rfl, hk1⟩, hk2⟩ := hk
    have he : C.ty e = some a := by
      split at hk1
      · rename_i a' ha; simp only [decide_eq_true_eq] at hk1; rw [ha, hk1]
      · cases hk1
    obtain ⟨xs, m, _, _, hl, hxl, hel⟩ := DataW.trod_array hd h
    rw [cellsOf_eq hT hC] at hl
    have key : ∀ (k o : Nat), o + k = n → ∃ ys : List a.den, ys.length = k ∧ repA (rep (fun b => b < w.heap.size) w a .s) ys (cs.drop (o * a.sz)) [] ∧ ∀ y ∈ ys, wfT a y := by
      intro k
      induction k with
      | zero =>
        intro o ho
        have : o = n := by omega
        subst this
        refine ⟨[], rfl, ⟨?_, rfl⟩, fun y hy => by simp at hy⟩
        apply List.drop_eq_nil_of_le
        rw [hl]
        exact Nat.le_refl _
      | succ k ihk =>
        intro o ho
        obtain ⟨ys, h1, h2, h3⟩ := ihk (o + 1) (by omega)
        have h4 := hel o (by omega)
        rw [cellsOf_eq hT he] at h4
        have hsome : ∃ z, xs[o]? = some z := ⟨xs[o]'(by omega), by simp⟩
        obtain ⟨z, hz⟩ := hsome
        rw [hz] at h4
        obtain ⟨y, hy, hw⟩ := ih.1 e m _ z he hp h4
        refine ⟨y :: ys, by simp [h1], ⟨_, _, [], [], hy, h2, ?_, rfl⟩, fun y' hy' => ?_⟩
        · rw [Nat.add_mul, Nat.one_mul, ← List.drop_drop, List.take_append_drop]
        · rcases List.mem_cons.1 hy' with rfl | hy'
          · exact hw
          · exact h3 y' hy'
    obtain ⟨ys, h1, h2, h3⟩ := key n 0 (by omega)
    exact ⟨ys, ⟨h1, by simpa [Md.e] using h2⟩, h3⟩
  | pair a b iha ihb =>
    have second : ∀ (fs : List Field) (off n : Nat) (cs : List Value), fieldsChk C.ty fs off (.pair a b) = true → (Ty.pair a b).hasPtr = false → cs.length = off + (Ty.pair a b).sz → (∀ f ∈ fs, ∃ x, DataW.trod enc P w base spare held n f.type ((cs.drop f.offset).take (P.cellsOf f.type)) = some x) →
        ∃ y : (Ty.pair a b).den, rep (fun b => b < w.heap.size) w (.pair a b) .s y (cs.drop off) [] ∧ wfT (.pair a b) y := by
      intro fs off n cs hf hp hl hx
      cases fs with
      | nil => simp [fieldsChk] at hf
      | cons f fs =>
        simp only [fieldsChk, Bool.and_eq_true, beq_iff_eq] at hf
        obtain ⟨⟨⟨⟨rfl, h1⟩, _⟩, _⟩, h5⟩ := hf
        have he : C.ty f.type = some a := by
          split at h1
          · rename_i a' ha; simp only [decide_eq_true_eq] at h1; rw [ha, h1]
          · cases h1
        simp only [Ty.hasPtr, Bool.or_eq_false_iff] at hp
        obtain ⟨x, hx1⟩ := hx f (by simp)
        rw [cellsOf_eq hT he] at hx1
        obtain ⟨y1, hy1, hw1⟩ := iha.1 f.type n _ x he hp.1 hx1
        obtain ⟨y2, hy2, hw2⟩ := ihb.2 fs (f.offset + a.sz) n cs h5 hp.2 (by simp only [Ty.sz] at hl; omega) (fun f' hf' => hx f' (by simp [hf']))
        refine ⟨(y1, y2), ⟨_, _, [], [], by simpa [Md.l] using hy1, by simpa [Md.r] using hy2, ?_, rfl⟩, hw1, hw2⟩
        rw [← List.drop_drop, List.take_append_drop]
    refine ⟨fun T fuel cs x hC hp h => ?_, second⟩
    obtain ⟨d, hd, hk⟩ := (tyF (hT _ _ hC)).und
    cases d <;> simp only [descChk] at hk <;> try (cases hk; done)
    rename_i fs
    obtain ⟨xs, n, _, _, hl, hxl, hel⟩ := DataW.trod_struct hd h
    rw [cellsOf_eq hT hC] at hl
    have := second fs.toList 0 n cs hk hp (by omega) (fun f hf => by
      obtain ⟨i, hi, rfl⟩ := List.getElem_of_mem hf
      have h1 := hel i fs.toList[i] (by simp)
      exact ⟨xs[i]'(by simp at hi; omega), by rw [h1]; simp⟩)
    simpa using this

end
end Go.VL

namespace Go.VL

def lookT {α : Type} : List (Nat × α) → Nat → Option α
  | [], _ => none
  | (k, v) :: l, n => match Nat.beq k n with | true => some v | false => lookT l n

theorem lookT_mem {α : Type} : ∀ (l : List (Nat × α)) (n : Nat) (v : α), lookT l n = some v → (n, v) ∈ l
  | (k, v') :: l, n, v, h => by
    simp only [lookT] at h
    split at h
    · rename_i hk
      have := Nat.eq_of_beq_eq_true hk
      cases h
      subst this
      exact .head _
    · exact .tail _ (lookT_mem l n v h)

/-- the table of types is as the program has them -/
theorem tysOk_of {P : Program} {C : Ctx} {l : List (Nat × Ty)} (hC : C.ty = lookT l) (h : (l.all fun p => tyChk P (lookT l) p.1 p.2) = true) : TysOk P C := by
  intro T t ht
  rw [hC] at ht ⊢
  exact List.all_eq_true.1 h _ (lookT_mem l T t ht)

/-- the types that are compared -/
theorem eqsOk_of {P : Program} {C : Ctx} {l : List (Nat × Ty)} (hC : C.ty = lookT l)
    (h : (l.all fun p => !C.eqs p.1 || (eqTyChk P (lookT l) p.2 p.1 && (!p.2.agg || !P.eqGuardType P.depth p.1))) = true) : EqsOk P C := by
  intro T t ht he
  rw [hC] at ht ⊢
  have := List.all_eq_true.1 h _ (lookT_mem l T t ht)
  simp only [he, Bool.not_true, Bool.false_or, Bool.and_eq_true, Bool.or_eq_true, Bool.not_eq_true'] at this
  exact ⟨this.1, fun ha => this.2.resolve_left (by rw [ha]; simp)⟩

end Go.VL

namespace Go.VL
open Go.RowKit Go.ChangeShapes Go.WideShapes

def memN : List Nat → Nat → Bool
  | [], _ => false
  | k :: l, n => match Nat.beq k n with | true => true | false => memN l n

/-! ### The loops' and summaries' native functions, all at once -/
noncomputable def acFix (C : Ctx) (k n : Nat) : AC → Code → AC
  | .sq a b, .seq x y => .sq (acFix C k n a x) (acFix C k n b y)
  | .cd a b, .cond _ x y => .cd (acFix C k n a x) (acFix C k n b y)
  | .bk a, .block _ x => .bk (acFix C k n a x)
  | .lp sh os _ a, .loop x => .lp sh os (fun s => ev C k n a x (sh.enc n s) (finL n sh os)) (acFix C k n a x)
  | .sm sh os _ a, x => .sm sh os (fun s => ev C k n a x (sh.enc n s) (fun ex e => Outs.dec n e ex os)) (acFix C k n a x)
  | a, _ => a

theorem ok_of_fix {C : Ctx} {k n : Nat} : ∀ (a : AC) (c : Code), acFix C k n a c = a → AC.ok C k n a c := by
  intro a
  induction a with
  | rg => intro c _; cases c <;> trivial
  | nx => intro c _; cases c <;> trivial
  | sq a b iha ihb =>
    intro c h
    cases c <;> try trivial
    simp only [acFix, AC.sq.injEq] at h
    exact ⟨iha _ h.1, ihb _ h.2⟩
  | cd a b iha ihb =>
    intro c h
    cases c <;> try trivial
    simp only [acFix, AC.cd.injEq] at h
    exact ⟨iha _ h.1, ihb _ h.2⟩
  | bk a iha =>
    intro c h
    cases c <;> try trivial
    simp only [acFix, AC.bk.injEq] at h
    exact iha _ h
  | lp sh os f a iha =>
    intro c h
    cases c <;> try trivial
    simp only [acFix, AC.lp.injEq, heq_eq_eq, true_and] at h
    exact ⟨fun s => congrFun h.1 s, iha _ h.2⟩
  | sm sh os f a iha =>
    intro c h
    have h : AC.sm sh os (fun s => ev C k n a c (sh.enc n s) (fun ex e => Outs.dec n e ex os)) (acFix C k n a c) = .sm sh os f a := by
      cases c <;> exact h
    simp only [AC.sm.injEq, heq_eq_eq, true_and] at h
    have : (∀ s, ev C k n a c (sh.enc n s) (fun ex e => Outs.dec n e ex os) = f s) ∧ AC.ok C k n a c := ⟨fun s => congrFun h.1 s, iha _ h.2⟩
    cases c <;> exact this

theorem tab_nil {P : Program} : ∀ f te, lookT [] f = some te → CallOk P f te := fun _ _ h => by simp [lookT] at h
theorem tab_cons {P : Program} {n : Nat} {t : TE} {l : List (Nat × TE)} (h : CallOk P n t) (hl : ∀ f te, lookT l f = some te → CallOk P f te) : ∀ f te, lookT ((n, t) :: l) f = some te → CallOk P f te := by
  intro f te he
  rcases List.mem_cons.1 (lookT_mem _ _ _ he) with e | e
  · cases e; exact h
  · simp only [lookT] at he
    split at he
    · rename_i hk
      cases he
      exact (Nat.eq_of_beq_eq_true hk) ▸ h
    · exact hl f te he

/-! ### The row's end -/
def wfAll : (ps : List PK) → denAll (ps.map (·.t)) → Prop
  | [], _ => True
  | p :: ps, s => wfT p.t s.1 ∧ wfAll ps s.2

def psFit (C : Ctx) : List PK → List TypeId → Bool
  | [], [] => true
  | p :: ps, T :: Ts => !p.io && p.m.plain && !p.t.hasPtr && (match C.ty T with | some t => decide (t = p.t) | none => false) && psFit C ps Ts
  | _, _ => false

section
variable {P : Program} {C : Ctx} {H : Type} {enc : TypeId × Value → H} {w : World} {base : Nat} {spare : Nat → Bool} {held : Bool}

theorem okWide_cells (hT : TysOk P C) {T : TypeId} {t : Ty} {v : Value} {r : Reach} {b0 : Nat} (hC : C.ty T = some t) (hp : t.hasPtr = false) (h : Value.okWide P w r b0 T v) : v.cells.toList = unpack t v ∧ pack t (unpack t v) = v := by
  obtain ⟨d, hd, hk⟩ := (tyF (hT _ _ hC)).und
  cases t with
  | int k =>
    cases d <;> simp only [descChk] at hk <;> try (cases hk; done)
    simp only [beq_iff_eq] at hk
    subst hk
    obtain ⟨n, rfl⟩ := okWide_int hd h
    exact ⟨rfl, rfl⟩
  | bool =>
    cases d <;> simp only [descChk] at hk <;> try (cases hk; done)
    obtain ⟨n, rfl⟩ := okWide_bool hd h
    exact ⟨rfl, rfl⟩
  | str =>
    cases d <;> simp only [descChk] at hk <;> try (cases hk; done)
    obtain ⟨n, rfl⟩ := okWide_string hd h
    exact ⟨rfl, rfl⟩
  | list a =>
    cases d <;> simp only [descChk] at hk <;> try (cases hk; done)
    obtain ⟨n, l, c, rfl⟩ := okWide_slice hd h
    exact ⟨rfl, rfl⟩
  | ptr a => simp [Ty.hasPtr] at hp
  | fn => simp [Ty.hasPtr] at hp
  | _ =>
    cases d <;> simp only [descChk] at hk <;> try (cases hk; done)
    all_goals
      simp only [Value.okWide, hd] at h
      obtain ⟨cs, rfl, _⟩ := h
      exact ⟨rfl, rfl⟩

theorem row_args (hT : TysOk P C) {r : Reach} {b0 : Nat} : ∀ (ps : List PK) (Ts : List TypeId) (vs : List Value) (ds : List (DataW H)) (q : List MemPlace), psFit C ps Ts = true → DataW.TrodAll enc P w base spare held Ts vs ds q →
    (∀ (j : Nat) t v, Ts[j]? = some t → vs[j]? = some v → Value.okWide P w r b0 t v) →
    ∃ (s : denAll (ps.map (·.t))) (as : List TV), decAll (ps.map (·.t)) as = some s ∧ as.map (·.m) = ps.map (·.m) ∧ tupRel (fun b => b < w.heap.size) w (argTVs ps as) vs [] ∧ wfAll ps s
  | [], [], vs, ds, q, _, h, _ => by
    obtain ⟨rfl, rfl, rfl⟩ := trodAll_nil h
    exact ⟨(), [], rfl, rfl, rfl, trivial⟩
  | [], _ :: _, _, _, _, h, _, _ => by simp [psFit] at h
  | _ :: _, [], _, _, _, h, _, _ => by simp [psFit] at h
  | p :: ps, T :: Ts, vs, ds, q, hf, h, hv => by
    obtain ⟨v, vs', d, ds', q1, q2, rfl, rfl, rfl, ⟨fuel, h1⟩, h2⟩ := trodAll_cons h
    simp only [psFit, Bool.and_eq_true, Bool.not_eq_true'] at hf
    obtain ⟨⟨⟨⟨f1, f2⟩, f3⟩, f4⟩, f5⟩ := hf
    have hC : C.ty T = some p.t := by
      split at f4
      · rename_i t ht; simp only [decide_eq_true_eq] at f4; rw [ht, f4]
      · cases f4
    obtain ⟨s, as, k1, k2, k3, k4⟩ := row_args hT ps Ts vs' ds' q2 f5 h2 (fun j t v h h' => hv (j + 1) t v (by simpa using h) (by simpa using h'))
    obtain ⟨e1, e2⟩ := okWide_cells hT hC f3 (hv 0 T v rfl rfl)
    rw [e1] at h1
    obtain ⟨y, hy, hw⟩ := (trod_both (C := C) hT p.t).1 T fuel _ _ hC f3 h1
    obtain ⟨io, tp, mp, mp'⟩ := p
    simp only at f1 f2
    subst f1
    have hm := plain_md f2
    subst hm
    refine ⟨(y, s), ⟨tp, .s, y⟩ :: as, ?_, by simpa using k2, ⟨[], [], ⟨hy, e2⟩, k3, rfl⟩, hw, k4⟩
    show ((castV (t := tp) tp y).bind fun x => (decAll (ps.map (·.t)) as).map fun r => (x, r)) = some (y, s)
    rw [k1]
    simp [castV]

theorem trod_len : ∀ {Ts : List TypeId} {vs : List Value} {ds : List (DataW H)} {q : List MemPlace}, DataW.TrodAll enc P w base spare held Ts vs ds q → ds.length = Ts.length
  | [], _, _, _, h => by obtain ⟨rfl, rfl, rfl⟩ := trodAll_nil h; rfl
  | _ :: _, _, _, _, h => by
    obtain ⟨_, _, _, _, _, _, rfl, rfl, rfl, _, h2⟩ := trodAll_cons h
    simp [trod_len h2]

theorem row_back {W W' : World} (hl : laidOutB P = true) (hb : Below W.heap.size W W') : ∀ {Ts : List TypeId} {vs : List Value} {ds : List (DataW H)} {q : List MemPlace}, (Ts.all fun t => P.readableRec t && decide (t < P.types.size)) = true →
    DataW.TrodAll enc P W 0 (fun _ => true) true Ts vs ds q → DataW.TrodAll enc P W' 0 (fun b => decide (b < W.heap.size)) true Ts vs ds q
  | [], vs, ds, q, _, h => by
    obtain ⟨rfl, rfl, rfl⟩ := trodAll_nil h
    exact rfl
  | T :: Ts, vs, ds, q, hr, h => by
    have hlt := h.lt
    obtain ⟨v, vs', d, ds', q1, q2, rfl, rfl, rfl, h1, h2⟩ := trodAll_cons h
    simp only [List.all_cons, Bool.and_eq_true, decide_eq_true_eq] at hr
    exact ⟨q1, q2, Below.trod hl hr.1.1 hr.1.2 h1 hb (fun x hx => hlt x (by simp [hx])), row_back hl hb (by simpa using hr.2) h2, rfl⟩

end
end Go.VL

namespace Go.VL

/-! ### Loops -/
theorem iterO_inv {S O : Type} {f : S → Option (S ⊕ O)} (Inv : Nat → S → Prop) (Post : O → Prop) (n : Nat)
    (hs : ∀ i s, i ≤ n → Inv i s → (∃ s', f s = some (.inl s') ∧ i < n ∧ Inv (i + 1) s') ∨ ∃ o, f s = some (.inr o) ∧ Post o) :
    ∀ (k : Nat), n < k → ∀ s0, Inv 0 s0 → ∃ o, iterO f k s0 = some o ∧ Post o := by
  have key : ∀ (m i : Nat) (s : S), i + m = n → Inv i s → ∀ k, m < k → ∃ o, iterO f k s = some o ∧ Post o := by
    intro m
    induction m with
    | zero =>
      intro i s hi h k hk
      obtain ⟨k, rfl⟩ : ∃ j, k = j + 1 := ⟨k - 1, by omega⟩
      rcases hs i s (by omega) h with ⟨s', _, hlt, _⟩ | ⟨o, ho, hp⟩
      · omega
      · exact ⟨o, by simp [iterO, ho], hp⟩
    | succ m ih =>
      intro i s hi h k hk
      obtain ⟨k, rfl⟩ : ∃ j, k = j + 1 := ⟨k - 1, by omega⟩
      rcases hs i s (by omega) h with ⟨s', he, _, h'⟩ | ⟨o, ho, hp⟩
      · obtain ⟨o, h1, h2⟩ := ih (i + 1) s' (by omega) h' k (by omega)
        exact ⟨o, by simp [iterO, he, h1], h2⟩
      · exact ⟨o, by simp [iterO, ho], hp⟩
  exact fun k hk s0 h0 => key n 0 s0 (by omega) h0 k hk

/-- a search: the first that is found decides -/
theorem iterO_find {S O : Type} {f : S → Option (S ⊕ O)} (st : Nat → S) (p : Nat → Bool) (ox : Nat → O) (oe : O) (n : Nat)
    (hs : ∀ i, i < n → f (st i) = some (bif p i then .inr (ox i) else .inl (st (i + 1)))) (he : f (st n) = some (.inr oe)) :
    ∀ k, n < k → iterO f k (st 0) = some (((List.range n).find? p).elim oe ox) := by
  have key : ∀ (m i : Nat), i + m = n → ∀ k, m < k → iterO f k (st i) = some (((List.range' i m).find? p).elim oe ox) := by
    intro m
    induction m with
    | zero =>
      intro i hi k hk
      obtain ⟨k, rfl⟩ : ∃ j, k = j + 1 := ⟨k - 1, by omega⟩
      have : i = n := by omega
      subst this
      simp [iterO, he]
    | succ m ih =>
      intro i hi k hk
      obtain ⟨k, rfl⟩ : ∃ j, k = j + 1 := ⟨k - 1, by omega⟩
      simp only [iterO, hs i (by omega), Option.bind_some, List.range'_succ, List.find?_cons]
      cases hp : p i with
      | true => simp
      | false => simpa using ih (i + 1) (by omega) k (by omega)
  intro k hk
  rw [key n 0 (by omega) k hk, List.range_eq_range']

/-- a loop that counts through -/
theorem iterO_fold {S O σ : Type} {f : S → Option (S ⊕ O)} (st : Nat → σ → S) (g : Nat → σ → σ) (I : Nat → σ → Prop) (fin : σ → O) (n : Nat)
    (hs : ∀ i a, i < n → I i a → f (st i a) = some (.inl (st (i + 1) (g i a))) ∧ I (i + 1) (g i a)) (he : ∀ a, I n a → f (st n a) = some (.inr (fin a))) :
    ∀ k, n < k → ∀ a, I 0 a → iterO f k (st 0 a) = some (fin ((List.range n).foldl (fun a i => g i a) a)) := by
  have key : ∀ (m i : Nat) (a : σ), i + m = n → I i a → ∀ k, m < k → iterO f k (st i a) = some (fin ((List.range' i m).foldl (fun a i => g i a) a)) := by
    intro m
    induction m with
    | zero =>
      intro i a hi h k hk
      obtain ⟨k, rfl⟩ : ∃ j, k = j + 1 := ⟨k - 1, by omega⟩
      have : i = n := by omega
      subst this
      simp [iterO, he a h]
    | succ m ih =>
      intro i a hi h k hk
      obtain ⟨k, rfl⟩ : ∃ j, k = j + 1 := ⟨k - 1, by omega⟩
      obtain ⟨h1, h2⟩ := hs i a (by omega) h
      simp only [iterO, h1, Option.bind_some, List.range'_succ, List.foldl_cons]
      simpa using ih (i + 1) (g i a) (by omega) h2 k (by omega)
  intro k hk a h
  rw [key n 0 a (by omega) h k hk, List.range_eq_range']

/-! ### Numbers -/
theorem wrap_i64 {x : Int} (h1 : -9223372036854775808 ≤ x) (h2 : x < 9223372036854775808) : IntKind.i64.wrap x = x := by
  simp only [IntKind.wrap, IntKind.bits, IntKind.signed]
  simp
  omega

theorem wrap_u64 {x : Int} (h1 : 0 ≤ x) (h2 : x < 18446744073709551616) : IntKind.u64.wrap x = x := by
  simp only [IntKind.wrap, IntKind.bits, IntKind.signed]
  simp
  omega

theorem wrap_u64_nat (x : Nat) (h : x < 18446744073709551616) : IntKind.u64.wrap (x : Int) = (x : Int) := wrap_u64 (by omega) (by omega)

theorem bv_nat (x : Nat) (h : x < 18446744073709551616) : (BitVec.ofInt 64 (x : Int)).toNat = x := by
  rw [BitVec.ofInt_natCast, BitVec.toNat_ofNat]
  omega

theorem iand_u64 (x y : Nat) (hx : x < 18446744073709551616) (hy : y < 18446744073709551616) : iand .u64 (x : Int) (y : Int) = ((x &&& y : Nat) : Int) := by
  show IntKind.u64.wrap ((BitVec.ofInt 64 (x : Int) &&& BitVec.ofInt 64 (y : Int)).toNat : Int) = _
  rw [BitVec.toNat_and, bv_nat x hx, bv_nat y hy]
  exact wrap_u64_nat _ (Nat.lt_of_le_of_lt Nat.and_le_left hx)

theorem ior_u64 (x y : Nat) (hx : x < 18446744073709551616) (hy : y < 18446744073709551616) : ior .u64 (x : Int) (y : Int) = ((x ||| y : Nat) : Int) := by
  show IntKind.u64.wrap ((BitVec.ofInt 64 (x : Int) ||| BitVec.ofInt 64 (y : Int)).toNat : Int) = _
  rw [BitVec.toNat_or, bv_nat x hx, bv_nat y hy]
  exact wrap_u64_nat _ (Nat.or_lt_two_pow (n := 64) hx hy)

theorem ixor_u64 (x y : Nat) (hx : x < 18446744073709551616) (hy : y < 18446744073709551616) : ixor .u64 (x : Int) (y : Int) = ((x ^^^ y : Nat) : Int) := by
  show IntKind.u64.wrap ((BitVec.ofInt 64 (x : Int) ^^^ BitVec.ofInt 64 (y : Int)).toNat : Int) = _
  rw [BitVec.toNat_xor, bv_nat x hx, bv_nat y hy]
  exact wrap_u64_nat _ (Nat.xor_lt_two_pow (n := 64) hx hy)

theorem ishl_u64 (x s : Nat) (hs : s ≤ 64) (h : x * 2 ^ s < 18446744073709551616) : ishl .u64 (x : Int) (s : Int) = ((x * 2 ^ s : Nat) : Int) := by
  have e : min s 64 = s := by omega
  show IntKind.u64.wrap ((x : Int) * 2 ^ (min ((s : Int).toNat) 64)) = _
  rw [Int.toNat_natCast, e]
  have := wrap_u64_nat _ h
  push_cast at this ⊢
  exact this

theorem ishr_u64 (x s : Nat) (hs : s ≤ 64) : ishr .u64 (x : Int) (s : Int) = ((x / 2 ^ s : Nat) : Int) := by
  have e : min s 64 = s := by omega
  show (x : Int).fdiv (2 ^ (min ((s : Int).toNat) 64)) = _
  rw [Int.toNat_natCast, e, Int.fdiv_eq_ediv_of_nonneg _ (by exact Int.le_of_lt (Int.pow_pos (by omega)))]
  push_cast
  rfl

theorem and_pow (x n : Nat) : x &&& (2 ^ n - 1) = x % 2 ^ n := Nat.and_two_pow_sub_one_eq_mod x n
theorem and_1 (x : Nat) : x &&& 1 = x % 2 := and_pow x 1
theorem and_2 (x : Nat) : x &&& 2 = 2 * (x / 2 % 2) := by
  apply Nat.eq_of_testBit_eq
  intro i
  rw [Nat.testBit_and, show (2 : Nat) = 2 ^ 1 from rfl, Nat.testBit_two_pow, Nat.testBit_two_pow_mul]
  by_cases h : i = 1
  · subst h; simp [Nat.testBit, Nat.shiftRight_eq_div_pow]
  · by_cases h0 : 1 ≤ i
    · obtain ⟨j, rfl⟩ : ∃ j, i = j + 2 := ⟨i - 2, by omega⟩
      have h1 : (x / 2 % 2).testBit (j + 2 - 1) = false := Nat.testBit_lt_two_pow (Nat.lt_of_lt_of_le (Nat.mod_lt _ (by omega)) (Nat.pow_le_pow_right (n := 2) (by omega) (by omega : 1 ≤ j + 2 - 1)))
      have h2 : decide (1 = j + 2) = false := by simp
      rw [h1, h2]
      simp
    · simp [h0]; omega
theorem and_31 (x : Nat) : x &&& 31 = x % 32 := and_pow x 5
theorem and_127 (x : Nat) : x &&& 127 = x % 128 := and_pow x 7

theorem getD_lt {α : Type} {xs : List α} {i : Nat} {d : α} (h : i < xs.length) : xs.getD i d = xs[i] := by simp [List.getD, h]

end Go.VL
