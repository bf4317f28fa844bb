import Derived.Test.YtkgjdglkkoabmaaGreatK

namespace Go.Proofs.YtkgjdglkkoabmaaGreat.N
open Go.VL

theorem pick_ok (k : Nat) (n t : Int) (h1 : 1 ≤ t) (ht : t ≤ 4611686018427387904) : Ok (bodegahand_Pick k n t) (fun r => 0 ≤ r.1 ∧ r.1 < t) :=
  ⟨_, pick_pos k n t h1 ht, Int.emod_nonneg n (by omega), Int.emod_lt_of_pos n (by omega)⟩

theorem start_ok (k : Nat) (n : Int) (hk : 2000 ≤ k) : Ok (bodegahand_Start k n) (fun r => r.1.2.1.length ≤ 5) := by
  unfold bodegahand_Start
  rw [rinitial_eq k n (by omega)]
  refine Ok.pure ?_
  unfold initV
  split
  · simp only [initM_len]; omega
  · simp

theorem view_L (k : Nat) (mask full nodes num : Int) (t v0 : TView) (any0 : Bool) (hv : v0.2.1 = []) (hv1 : v0.1 = num) (hn0 : 0 ≤ nodes) (hn : nodes ≤ 5) (hk : 2000 ≤ k) :
    Ok (bodegahand_View_L1_it k mask full [] nodes t v0 any0 0) (fun o => o.2.1.1 = num ∧ o.2.1.2.1.length ≤ 5) := by
  refine iterO_inv (fun i (s : Int × Int × List Int × Int × TView × TView × Bool × Int × Unit) => s.1 = mask ∧ s.2.1 = full ∧ s.2.2.1 = [] ∧ s.2.2.2.1 = nodes ∧ s.2.2.2.2.2.1.1 = num ∧ s.2.2.2.2.2.1.2.1.length ≤ i ∧ s.2.2.2.2.2.2.2.1 = (i : Int)) (fun (o : TView × TView × Bool × Unit) => o.2.1.1 = num ∧ o.2.1.2.1.length ≤ 5) nodes.toNat ?_ k (by omega) _ (by simp [hv, hv1])
  rintro i ⟨s1, s2, s3, s4, s5, s6, s7, s8, s9⟩ hi ⟨rfl, rfl, h3, rfl, h5, h6, rfl⟩
  simp only at h6 h5 h3 hn0 hn hi
  subst h3
  by_cases h : i < s4.toNat
  · left
    have h1 : (decide ((i : Int) < s4)) = true := decide_eq_true (by omega)
    have hw : IntKind.u64.wrap (i : Int) = (i : Int) := wrap_u64 (by omega) (by omega)
    simp only [bodegahand_View_L1, h1, cond_true, pick_pos k s1 32 (by omega) (by omega), pick_pos k s2 32 (by omega) (by omega), Option.bind_some, hw, z0, nx (show i < 2000 by omega)]
    by_cases hc : iand .i64 (ishr .i64 (s1 % 32) (i : Int)) 1 = 0
    · simp only [hc, decide_true, cond_true]
      exact ⟨_, rfl, h, rfl, rfl, rfl, rfl, h5, by simp only; omega, rfl⟩
    · simp only [hc, decide_false, cond_false]
      have hl : ∀ x : TMember, decide (s6.2.1.length + [x].length < 1073741824) = true := fun x => decide_eq_true (by simp; omega)
      have hbt : ¬ ((i : Int) < ((([] : List Int).length : Nat) : Int)) := by simp
      simp only [bodegahand_View_J1, hbt, decide_false, cond_false, Option.bind_some, hl, cond_true, nx (show i < 2000 by omega)]
      exact ⟨_, rfl, h, rfl, rfl, rfl, rfl, h5, by simp only [List.length_append, List.length_singleton]; omega, rfl⟩
  · right
    have hi' : (i : Int) = s4 := by omega
    subst hi'
    exact ⟨_, by simp only [bodegahand_View_L1, Int.lt_irrefl, decide_false, cond_false]; rfl, h5, by simp only; omega⟩

theorem view_ok (k : Nat) (n mask full nodes : Int) (hn0 : 0 ≤ nodes) (hn : nodes ≤ 5) (hk : 2000 ≤ k) :
    Ok (bodegahand_View k n mask full [] nodes) (fun r => 0 ≤ r.1.1 ∧ r.1.1 < 16 ∧ r.1.2.1.length ≤ 5) := by
  unfold bodegahand_View
  refine Ok.bind (pick_ok k n 16 (by omega) (by omega)) fun r hr => ?_
  refine Ok.bind (view_L k mask full nodes r.1 _ _ false rfl rfl hn0 hn hk) fun o ho => ?_
  have h2 : Ok (bodegahand_View_J2 k o.1 o.2.1 o.2.2.1 (decide ((o.2.1.2.1.length : Int) = 0))) (fun o' => o'.2.1.1 = r.1 ∧ 1 ≤ o'.2.1.2.1.length ∧ o'.2.1.2.1.length ≤ 5) := by
    unfold bodegahand_View_J2
    refine Ok.ite (fun _ => Ok.pure ⟨ho.1, by simp, by simp⟩) fun h => Ok.pure ⟨ho.1, ?_, ho.2⟩
    simp only [decide_eq_false_iff_not] at h
    show 1 ≤ o.2.1.2.1.length
    omega
  refine Ok.bind h2 fun o' ho' => ?_
  refine Ok.ite (fun _ => ?_) fun _ => Ok.pure ⟨by rw [ho'.1]; exact hr.1, by rw [ho'.1]; exact hr.2, ho'.2.2⟩
  refine Ok.grd (inb (show 0 < o'.2.1.2.1.length from ho'.2.1)) ?_
  refine Ok.pure ⟨?_, ?_, ?_⟩
  · show 0 ≤ o'.2.1.1
    rw [ho'.1]; exact hr.1
  · show o'.2.1.1 < 16
    rw [ho'.1]; exact hr.2
  · simpa using ho'.2.2

theorem rawview_ok (k : Nat) (r : TRaw) (nodes : Int) (hn0 : 0 ≤ nodes) (hn : nodes ≤ 5) (hk : 2000 ≤ k) : Ok (bodegalaw15_Raw_view k r nodes) (fun r => r.1.2.1.length ≤ 5) := by
  unfold bodegalaw15_Raw_view
  refine Ok.bind (start_ok k nodes hk) fun a ha => ?_
  refine Ok.bind (pick_ok k _ 3 (by omega) (by omega)) fun b hb => ?_
  have hJ : Ok (bodegalaw15_Raw_view_J1 k nodes r ((0:Int), ([] : (List TMember)), ()) a.1 (decide ((0:Int) < b.1))) (fun o => o.2.2.1.2.1.length ≤ 5) := by
    unfold bodegalaw15_Raw_view_J1
    refine Ok.ite (fun _ => ?_) fun _ => Ok.pure ha
    refine Ok.bind (view_ok k _ _ _ nodes hn0 hn hk) fun c hc => Ok.pure hc.2.2
  refine Ok.bind hJ fun o ho => ?_
  refine Ok.bind (pick_ok k _ 12 (by omega) (by omega)) fun c hc => ?_
  refine Ok.ite (fun _ => ?_) fun _ => Ok.pure ho
  refine Ok.bind (pick_ok k _ 40 (by omega) (by omega)) fun d hd => Ok.pure ho

theorem rawrenew_ok (k : Nat) (r : TRaw) (nodes : Int) (hn0 : 0 ≤ nodes) (hn : nodes ≤ 5) (hk : 2000 ≤ k) : Ok (bodegalaw15_Raw_renew k r nodes) (fun r => r.1.2.2.2.1.2.1.length ≤ 5) := by
  unfold bodegalaw15_Raw_renew
  refine Ok.bind (pick_ok k _ 6 (by omega) (by omega)) fun a ha => ?_
  refine Ok.bind (pick_ok k _ 30 (by omega) (by omega)) fun b hb => ?_
  refine Ok.bind (pick_ok k _ 4294967296 (by omega) (by omega)) fun c hc => ?_
  refine Ok.bind (rawview_ok k r nodes hn0 hn hk) fun d hd => ?_
  refine Ok.bind (pick_ok k _ 9 (by omega) (by omega)) fun e he => ?_
  refine Ok.ite (fun _ => Ok.pure hd) fun _ => Ok.ite (fun _ => Ok.pure hd) fun _ => Ok.ite (fun _ => Ok.pure hd) fun _ => Ok.pure hd

/-! ### A node -/
def nodeOk (n : TNode) : Prop := n.1.length = 784 ∧ ∀ x ∈ n.1, wordOk x
theorem nodeOk.put {n : TNode} (h : nodeOk n) {i : Nat} {w : Int} (hw : wordOk w) : nodeOk (n.1.set i w, n.2) :=
  ⟨by simpa using h.1, all_set h.2 hw⟩
theorem nodeOk.same {n : TNode} (h : nodeOk n) {x : Bool × Unit} : nodeOk (n.1, x) := h

theorem client_in {c : Int} (h0 : 0 ≤ c) (h1 : c < 6) (k : Nat) : bodegaref1_Client k c = some (true, ()) := by
  rw [(client_eq k c).2]; simp [h0, h1]
theorem mark_ok (k : Nat) (c : Int) (h0 : 0 ≤ c) (h1 : c < 6) : bodegaref1_MarkAt k c = some ((6 + c * 15) * 8, ()) := by
  unfold bodegaref1_MarkAt
  rw [client_in h0 h1]
  have w1 : IntKind.i64.wrap (c * 15) = c * 15 := wrap_i64 (by omega) (by omega)
  have w2 : IntKind.i64.wrap (6 + c * 15) = 6 + c * 15 := wrap_i64 (by omega) (by omega)
  have w3 : IntKind.i64.wrap ((6 + c * 15) * 8) = (6 + c * 15) * 8 := wrap_i64 (by omega) (by omega)
  simp [w1, w2, w3]
theorem body_at (k : Nat) (c : Int) (h0 : 0 ≤ c) (h1 : c < 6) : bodegaref1_BodyAt k c = some ((6 + c * 15) * 8 + 8, ()) := by
  unfold bodegaref1_BodyAt
  rw [client_in h0 h1, mark_ok k c h0 h1]
  have w3 : IntKind.i64.wrap ((6 + c * 15) * 8 + 8) = (6 + c * 15) * 8 + 8 := wrap_i64 (by omega) (by omega)
  simp [w3]
theorem tag_at (k : Nat) (c : Int) (h0 : 0 ≤ c) (h1 : c < 6) : bodegaref1_TagAt k c = some ((6 + c * 15) * 8 + 1, ()) := by
  unfold bodegaref1_TagAt
  rw [client_in h0 h1, mark_ok k c h0 h1]
  have w3 : IntKind.i64.wrap ((6 + c * 15) * 8 + 1) = (6 + c * 15) * 8 + 1 := wrap_i64 (by omega) (by omega)
  simp [w3]
theorem door_at (k : Nat) (c : Int) (h0 : 0 ≤ c) (h1 : c < 6) : bodegaref1_Door k c = some (24 + c, ()) := by
  unfold bodegaref1_Door
  rw [client_in h0 h1]
  have w3 : IntKind.i64.wrap (24 + c) = 24 + c := wrap_i64 (by omega) (by omega)
  simp [w3]
theorem page_at (k : Nat) (l : Int) (h0 : 96 ≤ l) (h1 : l < 256) : bodegaref1_PageAt k l = some (l * 8, ()) := by
  unfold bodegaref1_PageAt
  have w3 : IntKind.i64.wrap (l * 8) = l * 8 := wrap_i64 (by omega) (by omega)
  have h2 : ¬ l < 96 := by omega
  have h3 : ¬ 256 ≤ l := by omega
  simp [w3, h2, h3]
theorem cons_at (k : Nat) (v : Int) (h0 : 0 ≤ v) (h1 : v < 16) : bodegaref1_ConsensusAt k v = some (8 + v, ()) := by
  unfold bodegaref1_ConsensusAt
  have w3 : IntKind.i64.wrap (8 + v) = 8 + v := wrap_i64 (by omega) (by omega)
  have h2 : ¬ v < 0 := by omega
  have h3 : ¬ 16 ≤ v := by omega
  simp [w3, h2, h3]

end Go.Proofs.YtkgjdglkkoabmaaGreat.N

namespace Go.Proofs.YtkgjdglkkoabmaaGreat.N
open Go.VL

theorem getD_all {α : Type} {P : α → Prop} {xs : List α} {d : α} (h : ∀ x ∈ xs, P x) (hd : P d) (i : Nat) : P (xs.getD i d) := by
  by_cases hi : i < xs.length
  · exact h _ (getD_mem hi)
  · have : xs.getD i d = d := by simp [List.getD, List.getElem?_eq_none (show xs.length ≤ i by omega)]
    rw [this]; exact hd
theorem all_app {α : Type} {P : α → Prop} {xs ys : List α} (h1 : ∀ x ∈ xs, P x) (h2 : ∀ x ∈ ys, P x) : ∀ x ∈ xs ++ ys, P x := by
  intro x hx
  rcases List.mem_append.1 hx with h | h
  · exact h1 x h
  · exact h2 x h
theorem all_one {α : Type} {P : α → Prop} {a : α} (h : P a) : ∀ x ∈ [a], P x := by
  intro x hx
  rw [List.mem_singleton.1 hx]; exact h
theorem all_two {α : Type} {P : α → Prop} {a b : α} (h : P a) (h2 : P b) : ∀ x ∈ [a, b], P x := by
  intro x hx
  rcases List.mem_cons.1 hx with h' | h'
  · rw [h']; exact h
  · rw [List.mem_singleton.1 h']; exact h2
theorem all_take {α : Type} {P : α → Prop} {xs : List α} (h : ∀ x ∈ xs, P x) (n m : Nat) : ∀ x ∈ (List.take n xs).drop m, P x :=
  fun x hx => h x (List.mem_of_mem_take (List.mem_of_mem_drop hx))
theorem z1 (i : Nat) : (0 : Int) ≤ (i : Int) := Int.natCast_nonneg i

/-! ### The sum -/
theorem little_ok (k : Nat) (w : Int) (hk : 2000 ≤ k) : Ok (bodegaref1_Little k w) (fun r => r.1.length = 8) := by
  unfold bodegaref1_Little
  refine Ok.grd (by rfl) ?_
  refine Ok.bind (P := fun o => o.1.length = 8) ?_ fun o ho => Ok.pure ho
  refine Ok.iter 8 (fun i s => ∃ b : List Int, b.length = 8 ∧ s = (w, b, (i : Int), ())) (by omega) ⟨_, by simp, rfl⟩ ?_
  rintro i s hi ⟨b, hb, rfl⟩
  simp only [bodegaref1_Little_L1, nx (show i < 2000 by omega)]
  refine Ok.ite (fun hc => ?_) fun hc => Ok.out hb
  have hc : i < 8 := by simp at hc; omega
  refine Ok.grd (decide_eq_true (u64_nn _)) ?_
  refine Ok.grd (inb (by omega)) ?_
  exact Ok.go ⟨hc, _, by simpa using hb, rfl⟩

theorem ext2_ok (k : Nat) (b : List Int) (r i : Int) (hk : 2000 ≤ k) : Ok (bodegaref1_Extend_L2_it k b r i 0) (fun o => ∃ r', o = (b, r', i, ())) := by
  refine Ok.iter 8 (fun j s => ∃ r' : Int, s = (b, r', i, (j : Int), ())) (by omega) ⟨_, rfl⟩ ?_
  rintro j s hj ⟨r', rfl⟩
  simp only [bodegaref1_Extend_L2, nx (show j < 2000 by omega)]
  refine Ok.ite (fun hc => ?_) fun hc => Ok.out ⟨r', rfl⟩
  have hc : j < 8 := by simp at hc; omega
  exact Ok.ite (fun _ => Ok.go ⟨hc, _, rfl⟩) fun _ => Ok.go ⟨hc, _, rfl⟩

theorem extend_ok (k : Nat) (sum : Int) (b : List Int) (hb : b.length ≤ 1000) (hk : 2000 ≤ k) : Ok (bodegaref1_Extend k sum b) (fun r => wordOk r.1) := by
  unfold bodegaref1_Extend
  refine Ok.bind (P := fun _ => True) ?_ fun o _ => Ok.pure (ixor_ok _ _)
  refine Ok.iter b.length (fun j s => ∃ r' : Int, s = (b, r', (j : Int), ())) (by omega) ⟨_, rfl⟩ ?_
  rintro j s hj ⟨r', rfl⟩
  simp only [bodegaref1_Extend_L1]
  refine Ok.ite (fun hc => ?_) fun hc => Ok.out trivial
  have hc : j < b.length := by simp at hc; omega
  refine Ok.grd (inb hc) ?_
  refine Ok.bind (ext2_ok k b _ _ hk) ?_
  rintro o ⟨r2, rfl⟩
  simp only [nx (show j < 2000 by omega)]
  exact Ok.go ⟨hc, _, rfl⟩

theorem words_ok (k : Nat) (l : List Int) (hl : l.length ≤ 1000) (hk : 2000 ≤ k) : Ok (bodegaref1_Words k l) (fun r => wordOk r.1) := by
  unfold bodegaref1_Words
  refine Ok.bind (P := fun o => wordOk o.1) ?_ fun o ho => Ok.pure ho
  refine Ok.iter l.length (fun j s => ∃ t : Int, wordOk t ∧ s = (l, t, (j : Int), ())) (by omega) ⟨_, zero_ok, rfl⟩ ?_
  rintro j s hj ⟨t, ht, rfl⟩
  simp only [bodegaref1_Words_L1, nx (show j < 2000 by omega)]
  refine Ok.ite (fun hc => ?_) fun hc => Ok.out ht
  have hc : j < l.length := by simp at hc; omega
  refine Ok.grd (inb hc) ?_
  refine Ok.bind (little_ok k _ hk) fun b hb => ?_
  refine Ok.bind (extend_ok k t b.1 (by omega) hk) fun e he => ?_
  exact Ok.go ⟨hc, _, he, rfl⟩

/-! ### A record's body -/
def pageOk (p : TPage) : Prop := 96 ≤ p.1 ∧ p.1 < 98 ∧ wordOk p.2.1 ∧ ∀ x ∈ p.2.2.1, wordOk x

theorem next_ok (k : Nat) (h : Int) : Ok (bodegaref1_Next k h) (fun _ => True) := by
  unfold bodegaref1_Next
  exact Ok.ite (fun _ => Ok.pure trivial) fun _ => Ok.pure trivial

theorem vrec_ok (k : Nat) (r : TRecord) (lines : Int) (hr : r.2.1.length ≤ 1000) (hk : 2000 ≤ k) : Ok (bodegaref4_ValidRecord k r lines) (fun _ => True) := by
  unfold bodegaref4_ValidRecord
  refine Ok.ite (fun _ => Ok.pure trivial) fun _ => ?_
  refine Ok.ite (fun _ => Ok.pure trivial) fun _ => ?_
  refine Ok.bind (P := fun o => ∀ b, o = .inr b → b = (r, ())) ?_ fun o ho => ?_
  · refine Ok.iter r.2.1.length (fun j s => s = (lines, r, (j : Int), ())) (by omega) rfl ?_
    rintro j s hj rfl
    simp only [bodegaref4_ValidRecord_L1, nx (show j < 2000 by omega)]
    refine Ok.ite (fun hc => ?_) fun hc => Ok.out (by intro b e; cases e; rfl)
    have hc : j < r.2.1.length := by simp at hc; omega
    refine Ok.grd (inb hc) ?_
    simp only [bodegaref1_InHeap, Option.bind_some]
    refine Ok.ite (fun _ => Ok.out (by intro b e; cases e)) fun _ => Ok.go ⟨hc, rfl⟩
  · refine Ok.sum (fun a _ => Ok.pure trivial) fun b hb => ?_
    rw [ho b hb]
    refine Ok.bind (P := fun _ => True) ?_ fun o _ => Ok.sum (fun a _ => Ok.pure trivial) fun b _ => Ok.pure trivial
    refine Ok.iter r.2.1.length (fun j s => s = (r, (j : Int), ())) (by omega) rfl ?_
    rintro j s hj rfl
    simp only [bodegaref4_ValidRecord_L2, nx (show j < 2000 by omega), pv (show j < 2000 by omega)]
    refine Ok.ite (fun hc => ?_) fun hc => Ok.out trivial
    have hc : j < r.2.1.length := by simp at hc; omega
    refine Ok.grd (inb hc) ?_
    refine Ok.bind (next_ok k _) fun n _ => ?_
    refine Ok.grd (by by_cases h0 : 0 < j <;> simp <;> omega) ?_
    refine Ok.grd (by rw [inb hc]; rfl) ?_
    refine Ok.grd (by rw [inb hc]; rfl) ?_
    refine Ok.bind (P := fun _ => True) (Ok.ite (fun _ => by simp only [bodegaref1_Unlocked]; exact Ok.pure trivial) fun _ => Ok.pure trivial) fun u _ => ?_
    exact Ok.ite (fun _ => Ok.out trivial) fun _ => Ok.go ⟨hc, rfl⟩

theorem body_ok (k : Nat) (r : TRecord) (hr : r.2.1.length ≤ 3) (hp : ∀ p ∈ r.2.1, pageOk p) (hk : 2000 ≤ k) : Ok (bodegaref4_Body k r) (fun b => b.1.length ≤ 40 ∧ ∀ x ∈ b.1, wordOk x) := by
  unfold bodegaref4_Body
  refine Ok.bind (vrec_ok k r 256 (by omega) hk) fun v _ => ?_
  refine Ok.ite (fun _ => Ok.pure ⟨by simp, by simp⟩) fun _ => ?_
  refine Ok.bind (P := fun o => o.1.length ≤ 29 ∧ ∀ x ∈ o.1, wordOk x) ?_ fun o ho => ?_
  · refine Ok.iter r.2.1.length (fun j s => ∃ l : List Int, l.length = 2 + 9 * j ∧ (∀ x ∈ l, wordOk x) ∧ s = (r, l, (j : Int), ())) (by omega) ⟨_, rfl, all_two (wrap_ok _) (wrap_ok _), rfl⟩ ?_
    rintro j s hj ⟨l, hl, hw, rfl⟩
    simp only [bodegaref4_Body_L1]
    refine Ok.ite (fun hc => ?_) fun hc => Ok.out ⟨by simp only; omega, hw⟩
    have hc : j < r.2.1.length := by simp at hc; omega
    refine Ok.grd (inb hc) ?_
    refine Ok.grd (inb hc) ?_
    refine Ok.grd (decide_eq_true (by simp; omega)) ?_
    have hpj := hp _ (getD_mem (d := ((0:Int), (0:Int), (List.replicate 7 (0:Int)), ())) hc)
    refine Ok.bind (P := fun o => ∃ l' : List Int, l'.length = 2 + 9 * (j + 1) ∧ (∀ x ∈ l', wordOk x) ∧ o = (r, l', (j : Int), ())) ?_ ?_
    · refine Ok.iter 7 (fun i s => ∃ l' : List Int, l'.length = l.length + 2 + i ∧ (∀ x ∈ l', wordOk x) ∧ s = (r, l', (j : Int), (i : Int), ())) (by omega) ⟨_, by simp, all_app hw (all_two (wrap_ok _) hpj.2.2.1), rfl⟩ ?_
      rintro i s hi ⟨l', hl', hw', rfl⟩
      simp only [bodegaref4_Body_L2, nx (show i < 2000 by omega)]
      refine Ok.ite (fun hc2 => ?_) fun hc2 => Ok.out ⟨l', by simp at hc2; omega, hw', rfl⟩
      have hc2 : i < 7 := by simp at hc2; omega
      refine Ok.grd (inb hc) ?_
      refine Ok.grd (inb hc2) ?_
      refine Ok.grd (decide_eq_true (by simp; omega)) ?_
      exact Ok.go ⟨hc2, _, by simp; omega, all_app hw' (all_one (getD_all hpj.2.2.2 zero_ok _)), rfl⟩
    · rintro o ⟨l', hl', hw', rfl⟩
      simp only [nx (show j < 2000 by omega)]
      exact Ok.go ⟨hc, l', hl', hw', rfl⟩
  · refine Ok.bind (words_ok k o.1 (by omega) hk) fun w hw => ?_
    refine Ok.grd (decide_eq_true (by simp; omega)) ?_
    exact Ok.pure ⟨by simp; omega, all_app ho.2 (all_one hw)⟩

/-! ### Pages -/
theorem page_ok (k : Nat) (n : Int) (hk : 2000 ≤ k) : Ok (bodegahand_Page k n 98) (fun r => pageOk r.1) := by
  unfold bodegahand_Page
  rw [show IntKind.i64.wrap (98 - 96) = 2 from rfl]
  refine Ok.bind (pick_ok k _ 2 (by omega) (by omega)) fun a ha => ?_
  refine Ok.bind (pick_ok k _ 4 (by omega) (by omega)) fun b hb => ?_
  have w1 : IntKind.i64.wrap (96 + a.1) = 96 + a.1 := wrap_i64 (by omega) (by omega)
  rw [w1]
  refine Ok.bind (P := fun o => pageOk o.2.1) ?_ fun o ho => Ok.pure ho
  refine Ok.iter 7 (fun i s => ∃ p : TPage, pageOk p ∧ s = (n, ((0:Int), (0:Int), (List.replicate 7 (0:Int)), ()), p, (i : Int), ())) (by omega) ⟨_, ⟨by simp only; omega, by simp only; omega, ishl_ok _ _, ?_⟩, rfl⟩ ?_
  · intro x hx
    rw [List.eq_of_mem_replicate hx]; exact zero_ok
  · rintro i s hi ⟨p, hp, rfl⟩
    simp only [bodegahand_Page_L1, nx (show i < 2000 by omega)]
    refine Ok.ite (fun hc => ?_) fun hc => Ok.out hp
    have hc : i < 7 := by simp at hc; omega
    refine Ok.bind (pick_ok k _ 1048576 (by omega) (by omega)) fun c _ => ?_
    refine Ok.grd (inb hc) ?_
    refine Ok.go ⟨hc, _, ?_, rfl⟩
    exact ⟨hp.1, hp.2.1, hp.2.2.1, all_set hp.2.2.2 (wrap_ok _)⟩

theorem pages_ok (k : Nat) (l : List Int) (hl : l.length ≤ 3) (hk : 2000 ≤ k) : Ok (bodegahand_Pages k l 98 3) (fun r => r.1.length ≤ 3 ∧ ∀ p ∈ r.1, pageOk p) := by
  unfold bodegahand_Pages
  refine Ok.bind (P := fun o => o.1.length ≤ 3 ∧ ∀ p ∈ o.1, pageOk p) ?_ fun o ho => Ok.pure ho
  refine Ok.iter l.length (fun i s => ∃ out : List TPage, out.length ≤ i ∧ (∀ p ∈ out, pageOk p) ∧ s = (l, (98:Int), (3:Int), out, (i : Int), ())) (by omega) ⟨[], by simp, by simp, rfl⟩ ?_
  rintro i s hi ⟨out, ho, hp, rfl⟩
  simp only [bodegahand_Pages_L1]
  refine Ok.ite (fun hc => ?_) fun hc => Ok.out ⟨by simp only; omega, hp⟩
  have hc : i < l.length := by simp at hc; omega
  refine Ok.grd (inb hc) ?_
  refine Ok.bind (page_ok k _ hk) fun pg hpg => ?_
  refine Ok.bind (P := fun o => ∃ j : Nat, j ≤ out.length ∧ o = (l, (98:Int), (3:Int), out, (i : Int), pg.1, (j : Int), ())) ?_ ?_
  · refine Ok.iter out.length (fun j s => s = (l, (98:Int), (3:Int), out, (i : Int), pg.1, (j : Int), ())) (by omega) rfl ?_
    rintro j s hj rfl
    simp only [bodegahand_Pages_L2, nx (show j < 2000 by omega)]
    refine Ok.grd (by by_cases h0 : j < out.length <;> simp <;> omega) ?_
    refine Ok.ite (fun hc2 => ?_) fun _ => Ok.out ⟨j, hj, rfl⟩
    rw [bif_and_t] at hc2
    have : j < out.length := by have := hc2.1; simp at this; omega
    exact Ok.go ⟨this, rfl⟩
  · rintro o ⟨j, hj, rfl⟩
    simp only [nx (show i < 2000 by omega), Int.toNat_natCast]
    refine Ok.grd (by by_cases h0 : j < out.length <;> simp <;> omega) ?_
    refine Ok.ite (fun _ => Ok.go ⟨hc, out, by omega, hp, rfl⟩) fun _ => ?_
    refine Ok.grd (by simp; omega) ?_
    refine Ok.grd (by simp; omega) ?_
    refine Ok.grd (by simp; omega) ?_
    refine Ok.grd (by simp; omega) ?_
    refine Ok.grd (by simp; omega) ?_
    exact Ok.go ⟨hc, _, by simp; omega, all_app (all_app (all_app (by simp) (all_take hp _ _)) (all_one hpg)) (all_take hp _ _), rfl⟩

end Go.Proofs.YtkgjdglkkoabmaaGreat.N

namespace Go.Proofs.YtkgjdglkkoabmaaGreat.N
open Go.VL

theorem mark_w (k : Nat) (q : Int) : Ok (bodegaref1_Mark k q) (fun r => wordOk r.1) := by
  unfold bodegaref1_Mark
  exact Ok.ite (fun _ => Ok.pure zero_ok) fun _ => Ok.pure (ior_ok _ _)
theorem locked_w (k : Nat) (p : TPage) (c : Int) (h0 : 0 ≤ c) (h1 : c < 6) : Ok (bodegaref4_Locked k p c) (fun r => wordOk r.1) := by
  unfold bodegaref4_Locked
  refine Ok.bind (P := fun r => wordOk r.1) ?_ fun r hr => Ok.pure hr
  unfold bodegaref1_Lock
  rw [client_in h0 h1]
  simp only [Option.bind_some, bodegaref1_Unlocked]
  refine Ok.ite (fun _ => Ok.pure zero_ok) fun _ => Ok.ite (fun _ => Ok.pure zero_ok) fun _ => Ok.pure (ior_ok _ _)
theorem tag_w (k : Nat) (i c : Int) (h0 : 0 ≤ c) (h1 : c < 6) : Ok (bodegaref1_Tag k i c) (fun r => wordOk r.1) := by
  unfold bodegaref1_Tag
  rw [inc_val, client_in h0 h1]
  simp only [Option.bind_some]
  refine Ok.ite (fun _ => Ok.pure zero_ok) fun _ => Ok.ite (fun _ => Ok.pure zero_ok) fun _ => Ok.pure (ior_ok _ _)
theorem lease_w (k : Nat) (i u : Int) : Ok (bodegaref1_Lease k i u) (fun r => wordOk r.1) := by
  unfold bodegaref1_Lease
  rw [inc_val]
  simp only [Option.bind_some]
  refine Ok.ite (fun _ => Ok.pure zero_ok) fun _ => Ok.ite (fun _ => Ok.pure zero_ok) fun _ => Ok.pure (ior_ok _ _)
theorem consensus_w (k : Nat) (a b c : Int) : Ok (bodegaref1_Consensus k a b c) (fun r => wordOk r.1) := by
  unfold bodegaref1_Consensus
  exact Ok.ite (fun _ => Ok.pure zero_ok) fun _ => Ok.pure (ior_ok _ _)

theorem value_ok (k : Nat) (v : TView) (hl : v.2.1.length ≤ 5) (hk : 2000 ≤ k) : Ok (bodegaref9_Value k v) (fun _ => True) := by
  unfold bodegaref9_Value
  rw [rvalid_eq k v 5 (by omega) (by omega)]
  simp only [Option.bind_some]
  refine Ok.ite (fun _ => Ok.pure trivial) fun _ => ?_
  refine Ok.bind (P := fun _ => True) ?_ fun o _ => Ok.pure trivial
  refine Ok.iter v.2.1.length (fun i s => ∃ w : Int, s = (v, w, (i : Int), ())) (by omega) ⟨_, rfl⟩ ?_
  rintro i s hi ⟨w, rfl⟩
  simp only [bodegaref9_Value_L1]
  refine Ok.ite (fun hc => ?_) fun hc => Ok.out trivial
  have hc : i < v.2.1.length := by simp at hc; omega
  refine Ok.grd (inb hc) ?_
  refine Ok.bind (P := fun o => ∃ m x, o = (v, w, (i : Int), m, x, ())) ?_ ?_
  · unfold bodegaref9_Value_J1
    exact Ok.ite (fun _ => Ok.pure ⟨_, _, rfl⟩) fun _ => Ok.pure ⟨_, _, rfl⟩
  · rintro o ⟨m, x, rfl⟩
    refine Ok.grd (decide_eq_true (u64_nn _)) ?_
    simp only [nx (show i < 2000 by omega)]
    exact Ok.go ⟨hc, _, rfl⟩

theorem log_ok (k : Nat) (n : TNode) (t : TPoke) (c : Int) (hn : nodeOk n) (h0 : 0 ≤ c) (h1 : c < 6) (hk : 2000 ≤ k) : Ok (bodegahand_log k n t c 98) (fun r => nodeOk r.1) := by
  unfold bodegahand_log
  refine Ok.bind (pick_ok k _ 7 (by omega) (by omega)) fun a ha => ?_
  refine Ok.bind (pages_ok k _ (by simp) hk) fun ps hps => ?_
  generalize hr : ((IntKind.i64.wrap (a.1 + 1), ps.1, ()) : TRecord) = r
  have hr2 : r.2.1 = ps.1 := by rw [← hr]
  have hp3 : r.2.1.length ≤ 3 := by rw [hr2]; exact hps.1
  have hpp : ∀ p ∈ r.2.1, pageOk p := by rw [hr2]; exact hps.2
  refine Ok.bind (body_ok k r hp3 hpp hk) fun b hb => ?_
  refine Ok.bind (P := fun o => ∃ n' : TNode, nodeOk n' ∧ o = (n', c, t, r, ())) ?_ ?_
  · refine Ok.iter b.1.length (fun i s => ∃ n' : TNode, nodeOk n' ∧ s = (n', c, t, r, b.1, (i : Int), ())) (by omega) ⟨n, hn, rfl⟩ ?_
    rintro i s hi ⟨n', hn', rfl⟩
    simp only [bodegahand_log_L1, nx (show i < 2000 by omega), body_at k c h0 h1, Option.bind_some]
    refine Ok.ite (fun hc => ?_) fun hc => Ok.out ⟨n', hn', rfl⟩
    have hc : i < b.1.length := by simp at hc; omega
    have w : IntKind.i64.wrap ((6 + c * 15) * 8 + 8 + (i : Int)) = (6 + c * 15) * 8 + 8 + (i : Int) := wrap_i64 (by omega) (by omega)
    rw [w]
    refine Ok.grd (inb hc) ?_
    refine Ok.grd (inbZ (by omega) (by rw [hn'.1]; omega)) ?_
    refine Ok.go ⟨hc, _, ?_, rfl⟩
    exact hn'.put (hb.2 _ (getD_mem hc))
  · rintro o ⟨n1, hn1, rfl⟩
    refine Ok.bind (pick_ok k _ 14 (by omega) (by omega)) fun q hq => ?_
    refine Ok.bind (P := fun o => ∃ n' : TNode, nodeOk n' ∧ o = (n', c, t, r, ())) ?_ ?_
    · simp only [bodegahand_log_J1, mark_ok k c h0 h1, Option.bind_some]
      refine Ok.ite (fun _ => ?_) fun _ => Ok.pure ⟨n1, hn1, rfl⟩
      refine Ok.bind (pick_ok k _ 5 (by omega) (by omega)) fun d hd => ?_
      refine Ok.bind (mark_w k _) fun m hm => ?_
      refine Ok.grd (inbZ (by omega) (by rw [hn1.1]; omega)) ?_
      refine Ok.pure ⟨_, ?_, rfl⟩
      exact hn1.put hm
    · rintro o ⟨n2, hn2, rfl⟩
      refine Ok.bind (P := fun o => nodeOk o.1) ?_ fun o ho => Ok.pure ho
      refine Ok.iter r.2.1.length (fun i s => ∃ n' : TNode, nodeOk n' ∧ s = (n', c, t, r, (i : Int), ())) (by omega) ⟨n2, hn2, rfl⟩ ?_
      rintro i s hi ⟨n', hn', rfl⟩
      simp only [bodegahand_log_L2, nx (show i < 2000 by omega)]
      refine Ok.bind (P := fun _ => True) (Ok.ite (fun _ => (pick_ok k _ 3 (by omega) (by omega)).mono fun _ _ => trivial) fun _ => Ok.pure trivial) fun x _ => ?_
      refine Ok.ite (fun hc => ?_) fun hc => Ok.out hn'
      rw [bif_and_t] at hc
      have hc : i < r.2.1.length := by have := hc.1; simp at this; omega
      have hpi := hpp _ (getD_mem (d := ((0:Int), (0:Int), (List.replicate 7 (0:Int)), ())) hc)
      refine Ok.grd (inb hc) ?_
      rw [page_at k _ (by have := hpi.1; simp only [Int.toNat_natCast]; omega) (by have := hpi.2.1; simp only [Int.toNat_natCast]; omega)]
      simp only [Option.bind_some]
      refine Ok.grd (inb hc) ?_
      refine Ok.bind (locked_w k _ c h0 h1) fun lw hlw => ?_
      refine Ok.grd (inbZ (by have := hpi.1; simp only [Int.toNat_natCast]; omega) (by rw [hn'.1]; have := hpi.2.1; simp only [Int.toNat_natCast]; omega)) ?_
      refine Ok.go ⟨hc, _, ?_, rfl⟩
      exact hn'.put hlw

/-! ### The fabric, as it is prepared -/
def fabOk (N : Nat) (R : List Tclient × List (List TPair) × List TPair × Unit) (f : TFabric) : Prop := f.1 = 98 ∧ f.2.1.length = N ∧ (∀ n ∈ f.2.1, nodeOk n) ∧ f.2.2 = R
theorem fabOk.put {N : Nat} {R} {f : TFabric} (h : fabOk N R f) {n : TNode} (hn : nodeOk n) (i : Nat) : fabOk N R (f.1, f.2.1.set i n, f.2.2) :=
  ⟨h.1, by simpa using h.2.1, all_set h.2.2.1 hn, h.2.2.2⟩
theorem fabOk.node {N : Nat} {R} {f : TFabric} (h : fabOk N R f) {i : Nat} (hi : i < N) : nodeOk (f.2.1.getD i (([] : (List Int)), false, ())) :=
  h.2.2.1 _ (getD_mem (by rw [h.2.1]; exact hi))

theorem cons_l0 (k : Nat) (f : TFabric) (i : Int) (t : TPoke) (N : Nat) (R) (hf : fabOk N R f) (hN : N ≤ 5) (hi0 : 0 ≤ i) (hi : i < (N : Int)) (hk : 2000 ≤ k) : Ok (bodegahand_consensus_l0 k f i t) (fun r => fabOk N R r.1) := by
  have hn := hf.node (i := i.toNat) (by omega)
  unfold bodegahand_consensus_l0
  refine Ok.bind (pick_ok k _ 3 (by omega) (by omega)) fun a ha => ?_
  refine Ok.bind (view_ok k _ _ _ _ (by omega) (by rw [hf.2.1]; omega) hk) fun v hv => ?_
  refine Ok.bind (value_ok k v.1 hv.2.2 hk) fun w _ => ?_
  refine Ok.bind (pick_ok k _ 40 (by omega) (by omega)) fun b hb => ?_
  rw [cons_at k _ hv.1 hv.2.1]
  simp only [Option.bind_some]
  refine Ok.bind (pick_ok k _ 2 (by omega) (by omega)) fun c hc => ?_
  refine Ok.bind (consensus_w k _ _ _) fun d hd => ?_
  refine Ok.grd (inbZ (by have := hv.1; omega) (by rw [hn.1]; have := hv.2.1; omega)) ?_
  refine Ok.pure ?_
  exact hf.put (hn.put hd) _

theorem poke_ok (k : Nat) (f : TFabric) (t : TPoke) (N : Nat) (R) (hf : fabOk N R f) (hN0 : 1 ≤ N) (hN : N ≤ 5) (ht : wordOk t.2.2.2.2.2.1) (hk : 2000 ≤ k) : Ok (bodegahand_poke k f t 98) (fun r => fabOk N R r.1) := by
  unfold bodegahand_poke
  rw [hf.2.1]
  refine Ok.bind (pick_ok k _ (N : Int) (by omega) (by omega)) fun r1 h1 => ?_
  refine Ok.grd (inbZ h1.1 h1.2) ?_
  have hn := hf.node (i := r1.1.toNat) (by omega)
  refine Ok.bind (pick_ok k _ 6 (by omega) (by omega)) fun r2 h2 => ?_
  refine Ok.bind (page_ok k _ hk) fun r3 h3 => ?_
  refine Ok.bind (pick_ok k _ 14 (by omega) (by omega)) fun r4 h4 => ?_
  refine Ok.ite (fun _ => ?_) fun _ => ?_
  · rw [hn.1]
    refine Ok.bind (pick_ok k _ ((784 : Nat) : Int) (by omega) (by omega)) fun r5 h5 => ?_
    refine Ok.grd (inbZ h5.1 h5.2) ?_
    refine Ok.pure ?_
    exact hf.put (hn.put ht) _
  refine Ok.bind (P := fun o => ∃ b, o = (f, (98:Int), t, (r1.1, ()), r2.1, r3.1, r4.1, b, ())) ?_ ?_
  · unfold bodegahand_poke_J1
    refine Ok.ite (fun _ => Ok.pure ⟨_, rfl⟩) fun _ => Ok.ite (fun _ => Ok.pure ⟨_, rfl⟩) fun _ => Ok.pure ⟨_, rfl⟩
  rintro o ⟨b, rfl⟩
  have L := hn.1
  have c1 := h2.1
  have c2 := h2.2
  dsimp only
  refine Ok.ite (fun _ => ?_) fun _ => ?_
  · refine Ok.bind (log_ok k _ t r2.1 hn h2.1 h2.2 hk) fun r8 h8 => Ok.pure ?_
    exact hf.put h8 _
  refine Ok.ite (fun _ => ?_) fun _ => ?_
  · have p1 := h3.1
    have p2 := h3.2.1
    rw [page_at k _ p1 (by omega)]
    simp only [Option.bind_some]
    refine Ok.bind (pick_ok k _ 7 (by omega) (by omega)) fun r10 _ => ?_
    refine Ok.grd (inbZ (by omega) (by rw [L]; omega)) ?_
    refine Ok.pure ?_
    exact hf.put (hn.put (ior_ok _ _)) _
  refine Ok.ite (fun _ => ?_) fun _ => ?_
  · rw [door_at k _ c1 c2]
    simp only [Option.bind_some]
    refine Ok.bind (pick_ok k _ 6 (by omega) (by omega)) fun r10 _ => ?_
    refine Ok.grd (inbZ (by omega) (by rw [L]; omega)) ?_
    refine Ok.pure ?_
    exact hf.put (hn.put (wrap_ok _)) _
  refine Ok.ite (fun _ => ?_) fun _ => ?_
  · rw [tag_at k _ c1 c2]
    simp only [Option.bind_some]
    refine Ok.bind (pick_ok k _ 3 (by omega) (by omega)) fun r16 _ => ?_
    refine Ok.bind (pick_ok k _ 6 (by omega) (by omega)) fun r17 h17 => ?_
    refine Ok.bind (tag_w k _ _ h17.1 h17.2) fun r18 h18 => ?_
    refine Ok.grd (inbZ (by omega) (by rw [L]; omega)) ?_
    refine Ok.pure ?_
    exact hf.put (hn.put h18) _
  refine Ok.ite (fun _ => ?_) fun _ => ?_
  · rw [(clock_at k _ c1 c2).2]
    simp only [Option.bind_some]
    refine Ok.bind (pick_ok k _ 8 (by omega) (by omega)) fun r10 _ => ?_
    refine Ok.grd (inbZ (by omega) (by rw [L]; omega)) ?_
    refine Ok.pure ?_
    exact hf.put (hn.put (wrap_ok _)) _
  refine Ok.ite (fun _ => ?_) fun _ => ?_
  · refine Ok.bind (pick_ok k _ 6 (by omega) (by omega)) fun r10 _ => ?_
    refine Ok.grd (inbZ (by omega) (by rw [L]; omega)) ?_
    refine Ok.pure ?_
    exact hf.put (hn.put (wrap_ok _)) _
  refine Ok.ite (fun _ => ?_) fun _ => ?_
  · refine Ok.bind (pick_ok k _ 3 (by omega) (by omega)) fun r10 _ => ?_
    refine Ok.grd (inbZ (by omega) (by rw [L]; omega)) ?_
    refine Ok.pure ?_
    exact hf.put (hn.put (wrap_ok _)) _
  refine Ok.ite (fun _ => ?_) fun _ => ?_
  · refine Ok.bind (cons_l0 k f r1.1 t N R hf hN h1.1 h1.2 hk) fun r27 h27 => Ok.pure h27
  refine Ok.ite (fun _ => ?_) fun _ => ?_
  · refine Ok.pure ?_
    exact hf.put hn.same _
  refine Ok.ite (fun _ => ?_) fun _ => ?_
  · refine Ok.bind (P := fun o => fabOk N R o.1) ?_ fun o ho => Ok.pure ho
    refine Ok.iter N (fun i s => ∃ f' : TFabric, fabOk N R f' ∧ s = (f', (98:Int), t, r2.1, (i : Int), ())) (by omega) ⟨f, hf, rfl⟩ ?_
    rintro i s hi ⟨f', hf', rfl⟩
    simp only [bodegahand_poke_L1, nx (show i < 2000 by omega), hf'.2.1]
    refine Ok.ite (fun hc => ?_) fun hc => Ok.out hf'
    have hc : i < N := by simp at hc; omega
    refine Ok.grd (inb hc) ?_
    refine Ok.bind (log_ok k _ t r2.1 (hf'.node hc) c1 c2 hk) fun r29 h29 => ?_
    refine Ok.go ⟨hc, _, ?_, rfl⟩
    exact hf'.put h29 _
  refine Ok.ite (fun _ => ?_) fun _ => ?_
  · rw [(lease_at k _ c1 c2).2]
    simp only [Option.bind_some]
    refine Ok.bind (pick_ok k _ 3 (by omega) (by omega)) fun r16 _ => ?_
    refine Ok.bind (pick_ok k _ 50 (by omega) (by omega)) fun r17 h17 => ?_
    refine Ok.bind (lease_w k _ _) fun r18 h18 => ?_
    refine Ok.grd (inbZ (by omega) (by rw [L]; omega)) ?_
    refine Ok.pure ?_
    exact hf.put (hn.put h18) _
  exact Ok.pure hf

end Go.Proofs.YtkgjdglkkoabmaaGreat.N

namespace Go.Proofs.YtkgjdglkkoabmaaGreat.N
open Go.VL

def cl0 : Tclient := (true, (1:Int), false, ([] : List TClocksOutcome), ([] : List Bool), (0:Int), (0:Int), ())
def pairs0 (n : Nat) : List TPair := (List.range n).map fun (i : Nat) => ((0:Int), (1:Int), (i : Int), ([] : List Tpending), ())
def R0 (n : Nat) : List Tclient × List (List TPair) × List TPair × Unit := ([cl0], [pairs0 n], [], ())

theorem pairs0_succ (i : Nat) : pairs0 (i + 1) = pairs0 i ++ [((0:Int), (1:Int), (i : Int), ([] : List Tpending), ())] := by simp [pairs0, List.range_succ]
theorem pairs0_len (i : Nat) : (pairs0 i).length = i := by simp [pairs0]

theorem newnode_ok (k : Nat) : Ok (bodegaref6_NewNode k 98) (fun r => nodeOk r.1) := by
  unfold bodegaref6_NewNode
  rw [show IntKind.i64.wrap (98 * 8) = 784 from rfl]
  refine Ok.grd (by rfl) ?_
  refine Ok.pure ⟨by rw [List.length_replicate]; rfl, ?_⟩
  intro x hx
  rw [List.eq_of_mem_replicate hx]; exact zero_ok

theorem renewF_ok (k : Nat) (ns : List TNode) (N : Nat) (hN : ns.length = N) (hN5 : N ≤ 5) (hk : 2000 ≤ k) :
    bodegaref6_Fabric_renew k ((98:Int), ns, [cl0], [[]], [], ()) 0 = some (((98:Int), ns, R0 N), ()) := by
  have L : Ok (bodegaref6_Fabric_renew_L1_it k ((98:Int), ns, [cl0], [[]], [], ()) 0 [] 0) (fun o => o = (((98:Int), ns, [cl0], [[]], [], ()), (0:Int), pairs0 N, ())) := by
    refine Ok.iter N (fun i s => s = (((98:Int), ns, [cl0], [[]], [], ()), (0:Int), pairs0 i, (i : Int), ())) (by omega) rfl ?_
    rintro i s hi rfl
    simp only [bodegaref6_Fabric_renew_L1, nx (show i < 2000 by omega), hN]
    refine Ok.ite (fun hc => ?_) fun hc => ?_
    · have hc : i < N := by simp at hc; omega
      refine Ok.grd (by rfl) ?_
      refine Ok.grd (decide_eq_true (by simp [pairs0_len]; omega)) ?_
      exact Ok.go ⟨hc, by rw [pairs0_succ]; rfl⟩
    · have : i = N := by simp at hc; omega
      subst this
      exact Ok.out rfl
  obtain ⟨o, h1, rfl⟩ := L
  unfold bodegaref6_Fabric_renew
  rw [h1]
  rfl

theorem new_ok (k : Nat) (N : Nat) (hN5 : N ≤ 5) (hk : 2000 ≤ k) : Ok (bodegaref6_New k (N : Int) 1 98) (fun r => ∃ f, r.1 = some f ∧ fabOk N (R0 N) f) := by
  unfold bodegaref6_New
  refine Ok.bind (P := fun o => ∃ ns : List TNode, ns.length = N ∧ (∀ n ∈ ns, nodeOk n) ∧ o = ((1:Int), ((98:Int), ns, [], [], [], ()), ())) ?_ ?_
  · refine Ok.iter N (fun i s => ∃ ns : List TNode, ns.length = i ∧ (∀ n ∈ ns, nodeOk n) ∧ s = ((N : Int), (1:Int), (98:Int), ((98:Int), ns, [], [], [], ()), (i : Int), ())) (by omega) ⟨[], rfl, by simp, rfl⟩ ?_
    rintro i s hi ⟨ns, hl, hn, rfl⟩
    simp only [bodegaref6_New_L1, nx (show i < 2000 by omega)]
    refine Ok.ite (fun hc => ?_) fun hc => ?_
    · have hc : i < N := by simp at hc; omega
      refine Ok.bind (newnode_ok k) fun r hr => ?_
      refine Ok.grd (decide_eq_true (by simp; omega)) ?_
      exact Ok.go ⟨hc, _, by simp [hl], all_app hn (all_one hr), rfl⟩
    · have : i = N := by simp at hc; omega
      exact Ok.out ⟨ns, by omega, hn, rfl⟩
  · rintro o ⟨ns, hl, hn, rfl⟩
    refine Ok.bind (P := fun o => o.1 = ((98:Int), ns, R0 N)) ?_ fun o ho => Ok.pure ⟨_, rfl, by rw [ho]; exact ⟨rfl, hl, hn, rfl⟩⟩
    refine Ok.iter 1 (fun i s => (i = 0 ∧ s = ((1:Int), ((98:Int), ns, [], [], [], ()), (0:Int), ())) ∨ (i = 1 ∧ s = ((1:Int), ((98:Int), ns, R0 N), (1:Int), ()))) (by omega) (.inl ⟨rfl, rfl⟩) ?_
    rintro i s hi (⟨rfl, rfl⟩ | ⟨rfl, rfl⟩)
    · simp only [bodegaref6_New_L2]
      refine Ok.grd (by rfl) ?_
      refine Ok.grd (by rfl) ?_
      refine Ok.grd (by rfl) ?_
      have := renewF_ok k ns N hl hN5 hk
      simp only [List.nil_append]
      refine Ok.eqb this ?_
      exact Ok.go ⟨by omega, .inr ⟨trivial, rfl⟩⟩
    · simp only [bodegaref6_New_L2]
      exact Ok.out rfl

theorem ival_ok (k : Nat) (n : Int) (hn : n ≤ 1000) (hk : 2000 ≤ k) : Ok (bodegaref1_InitialValue k n) (fun _ => True) := by
  unfold bodegaref1_InitialValue
  refine Ok.ite (fun _ => Ok.pure trivial) fun _ => ?_
  refine Ok.bind (P := fun _ => True) ?_ fun o _ => Ok.pure trivial
  refine Ok.iter n.toNat (fun i s => ∃ v : Int, s = (n, v, (i : Int), ())) (by omega) ⟨_, rfl⟩ ?_
  rintro i s hi ⟨v, rfl⟩
  simp only [bodegaref1_InitialValue_L1, nx (show i < 2000 by omega)]
  refine Ok.ite (fun hc => ?_) fun hc => Ok.out trivial
  have hc : i < n.toNat := by simp at hc; omega
  refine Ok.grd (decide_eq_true (u64_nn _)) ?_
  exact Ok.go ⟨hc, _, rfl⟩

def wordsOk (w : List Int) : Prop := w.length = 784 ∧ ∀ x ∈ w, wordOk x
theorem wordsOk.put {w : List Int} (h : wordsOk w) {x : Int} (hx : wordOk x) (i : Nat) : wordsOk (w.set i x) := ⟨by simpa using h.1, all_set h.2 hx⟩

theorem formatted_ok (k : Nat) (n : Int) (hn : n ≤ 1000) (hk : 2000 ≤ k) : Ok (bodegaref1_Formatted k n 98) (fun r => wordsOk r.1) := by
  unfold bodegaref1_Formatted
  rw [show IntKind.i64.wrap (98 * 8) = 784 from rfl]
  have h0 : wordsOk (List.replicate (784 : Int).toNat (0 : Int)) := ⟨by rw [List.length_replicate]; rfl, fun x hx => by rw [List.eq_of_mem_replicate hx]; exact zero_ok⟩
  have h1 := h0.put one_ok 0
  have h2 := h1.put one_ok 1
  refine Ok.grd (by rfl) ?_
  refine Ok.grd (inbZ (by omega) (by rw [h0.1]; omega)) ?_
  refine Ok.grd (inbZ (by omega) (by rw [h1.1]; omega)) ?_
  refine Ok.bind (ival_ok k n hn hk) fun iv _ => ?_
  rw [cons_at k 0 (by omega) (by omega)]
  simp only [Option.bind_some]
  refine Ok.grd (inbZ (by omega) (by rw [h2.1]; omega)) ?_
  have h3 := h2.put (ior_ok 4504699138998272 iv.1) (8 + 0 : Int).toNat
  refine Ok.bind (P := fun o => ∃ w, wordsOk w ∧ o = ((98:Int), w, ())) ?_ ?_
  · refine Ok.iter 6 (fun i s => ∃ w, wordsOk w ∧ s = ((98:Int), w, (i : Int), ())) (by omega) ⟨_, h3, rfl⟩ ?_
    rintro i s hi ⟨w, hw, rfl⟩
    simp only [bodegaref1_Formatted_L1, nx (show i < 2000 by omega)]
    refine Ok.ite (fun hc => ?_) fun hc => Ok.out ⟨w, hw, rfl⟩
    have hc : i < 6 := by simp at hc; omega
    rw [door_at k _ (by omega) (by omega)]
    simp only [Option.bind_some]
    refine Ok.grd (inbZ (by omega) (by rw [hw.1]; omega)) ?_
    exact Ok.go ⟨hc, _, hw.put one_ok _, rfl⟩
  · rintro o ⟨w, hw, rfl⟩
    refine Ok.bind (P := fun o => wordsOk o.1) ?_ fun o ho => Ok.pure ho
    refine Ok.iter 2 (fun i s => ∃ w, wordsOk w ∧ s = ((98:Int), w, ((96 + i : Nat) : Int), ())) (by omega) ⟨_, hw, rfl⟩ ?_
    rintro i s hi ⟨w, hw, rfl⟩
    simp only [bodegaref1_Formatted_L2, nx (show 96 + i < 2000 by omega)]
    refine Ok.ite (fun hc => ?_) fun hc => Ok.out hw
    have hc : i < 2 := by simp at hc; omega
    have w1 : IntKind.i64.wrap (((96 + i : Nat) : Int) * 8) = ((96 + i : Nat) : Int) * 8 := wrap_i64 (by omega) (by omega)
    rw [w1]
    refine Ok.grd (inbZ (by omega) (by rw [hw.1]; omega)) ?_
    exact Ok.go ⟨hc, _, hw.put (x := 256) ⟨by omega, by omega⟩ _, rfl⟩

theorem format_ok (k : Nat) (N : Nat) (R) (f : TFabric) (hf : fabOk N R f) (hN5 : N ≤ 5) (hk : 2000 ≤ k) : Ok (bodegaref6_Fabric_Format k f) (fun r => fabOk N R r.1) := by
  unfold bodegaref6_Fabric_Format
  refine Ok.bind (P := fun o => fabOk N R o.1) ?_ fun o ho => Ok.pure ho
  refine Ok.iter N (fun i s => ∃ f', fabOk N R f' ∧ s = (f', (i : Int), ())) (by omega) ⟨f, hf, rfl⟩ ?_
  rintro i s hi ⟨f', hf', rfl⟩
  simp only [bodegaref6_Fabric_Format_L1, nx (show i < 2000 by omega), hf'.1, hf'.2.1]
  refine Ok.ite (fun hc => ?_) fun hc => Ok.out hf'
  have hc : i < N := by simp at hc; omega
  refine Ok.bind (formatted_ok k _ (by omega) hk) fun w hw => ?_
  refine Ok.grd (inb hc) ?_
  refine Ok.go ⟨hc, _, ?_, rfl⟩
  have := hf'.put (n := (w.1, (f'.2.1.getD (i : Int).toNat (([] : (List Int)), false, ())).2)) hw (i : Int).toNat
  rw [hf'.1] at this
  exact this

def worldOk (l : List TPoke) : Prop := l.length ≤ 16 ∧ ∀ p ∈ l, wordOk p.2.2.2.2.2.1

theorem prepare_ok (k : Nat) (N : Nat) (l : List TPoke) (hN0 : 1 ≤ N) (hN5 : N ≤ 5) (hl : worldOk l) (hk : 2000 ≤ k) : Ok (bodegahand_Prepare k (N : Int) 1 98 l) (fun r => ∃ f, r.1 = some f ∧ fabOk N (R0 N) f) := by
  unfold bodegahand_Prepare
  refine Ok.bind (new_ok k N hN5 hk) ?_
  rintro ⟨r, ⟨⟩⟩ ⟨f, h, hf⟩
  simp only at h
  subst h
  refine Ok.grd rfl ?_
  refine Ok.bind (format_ok k N (R0 N) f hf hN5 hk) fun g hg => ?_
  refine Ok.bind (P := fun o => fabOk N (R0 N) o.1) ?_ fun o ho => Ok.pure ⟨_, rfl, ho⟩
  have hl1 := hl.1
  refine Ok.iter l.length (fun i s => ∃ f', fabOk N (R0 N) f' ∧ s = ((98:Int), l, f', (i : Int), ())) (by omega) ⟨g.1, hg, rfl⟩ ?_
  rintro i s hi ⟨f', hf', rfl⟩
  simp only [bodegahand_Prepare_L1, nx (show i < 2000 by omega)]
  refine Ok.ite (fun hc => ?_) fun hc => Ok.out hf'
  have hc : i < l.length := by simp at hc; omega
  refine Ok.grd (inb hc) ?_
  refine Ok.bind (poke_ok k f' _ N _ hf' hN0 hN5 (hl.2 _ (getD_mem hc)) hk) fun p hp => ?_
  exact Ok.go ⟨hc, _, hp, rfl⟩

end Go.Proofs.YtkgjdglkkoabmaaGreat.N

namespace Go.Proofs.YtkgjdglkkoabmaaGreat.N
open Go.VL

/-! ### Queues -/
def tot (ps : List TPair) : Nat := (ps.map fun p => p.2.2.2.1.length).foldr (· + ·) 0

theorem tot_cons (p : TPair) (ps : List TPair) : tot (p :: ps) = p.2.2.2.1.length + tot ps := rfl
theorem tot_set : ∀ (ps : List TPair) (j : Nat) (p d : TPair), j < ps.length → tot (ps.set j p) + (ps.getD j d).2.2.2.1.length = tot ps + p.2.2.2.1.length := by
  intro ps
  induction ps with
  | nil => intro j p d h; simp at h
  | cons q qs ih =>
    intro j p d h
    cases j with
    | zero => simp only [List.set_cons_zero, tot_cons, List.getD_cons_zero]; omega
    | succ j =>
      have := ih j p d (by simpa using h)
      simp only [List.set_cons_succ, tot_cons, List.getD_cons_succ]
      omega
theorem len_tot : ∀ (ps : List TPair) (j : Nat) (d : TPair), j < ps.length → (ps.getD j d).2.2.2.1.length ≤ tot ps := by
  intro ps
  induction ps with
  | nil => intro j d h; simp at h
  | cons q qs ih =>
    intro j d h
    cases j with
    | zero => simp only [tot_cons, List.getD_cons_zero]; omega
    | succ j =>
      have := ih j d (by simpa using h)
      simp only [tot_cons, List.getD_cons_succ]
      omega
theorem tot_pairs0 (n : Nat) : tot (pairs0 n) = 0 := by
  unfold tot pairs0
  rw [List.map_map]
  induction (List.range n) with
  | nil => rfl
  | cons x xs ih => simpa using ih

theorem getD_set {α : Type} (xs : List α) (i j : Nat) (a d : α) (hi : i < xs.length) : (xs.set i a).getD j d = if j = i then a else xs.getD j d := by
  by_cases h : j = i
  · subst h; simp [List.getD, hi]
  · have : i ≠ j := fun e => h e.symm
    simp [List.getD, h, List.getElem?_set_ne this]

def pendOk (L : Nat) (x : Tpending) : Prop := goodV x.1 ∧ x.2.1 = 0 ∧ x.2.2.1 = [] ∧ 0 ≤ x.2.2.2.1 ∧ x.2.2.2.1 < (L : Int)
def pairsOk (N L : Nat) (ps : List TPair) : Prop :=
  ps.length = N ∧ ∀ j, j < N → ∃ q, ps.getD j ((0:Int), (0:Int), (0:Int), ([] : (List Tpending)), ()) = ((0:Int), (1:Int), (j : Int), q, ()) ∧ ∀ x ∈ q, pendOk L x
def cov (N : Nat) (hv : List Bool) (ps : List TPair) : Prop :=
  ∀ s, s < hv.length → hv.getD s false = false → ∃ j, j < N ∧ ∃ x ∈ (ps.getD j ((0:Int), (0:Int), (0:Int), ([] : (List Tpending)), ())).2.2.2.1, x.2.2.2.1 = (s : Int)

theorem pairsOk.set {N L : Nat} {ps : List TPair} (h : pairsOk N L ps) {j : Nat} (hj : j < N) {q : List Tpending} (hq : ∀ x ∈ q, pendOk L x) : pairsOk N L (ps.set j ((0:Int), (1:Int), (j : Int), q, ())) := by
  refine ⟨by simpa using h.1, ?_⟩
  intro i hi
  rw [getD_set _ _ _ _ _ (by rw [h.1]; exact hj)]
  by_cases e : i = j
  · subst e; exact ⟨q, by simp, hq⟩
  · simp only [e, if_false]; exact h.2 i hi

/-! ### Is it valid -/
theorem valid_good (k : Nat) (v : TVerb) (n : Int) (hv : goodV v) (h1 : 1 ≤ n) (h5 : n ≤ 5) : bodegaref4_Valid k v n 98 = some (if v.2.1 < 0 ∨ n ≤ v.2.1 then 2 else 0, ()) := by
  obtain ⟨c, c1, c8, hk, a1, a2, a3, _⟩ := hv
  have hc : bodegaref4_Count k v = some (c, ()) := by
    unfold bodegaref4_Count
    rcases hk with ⟨h, e⟩ | ⟨h, e⟩ <;> simp [h, e]
  unfold bodegaref4_Valid
  have b1 : (bif bif bif decide (v.1 < 1) then true else decide (4 < v.1) then true else bif decide (v.1 = 1) then decide (v.2.2.2.1 < 1) else false then true else bif decide (v.1 = 2) then decide ((v.2.2.2.2.2.2.1.length : Int) < 1) else false) = false := by
    rcases hk with ⟨h, e⟩ | ⟨h, e⟩
    · have : ¬ v.2.2.2.1 < 1 := by omega
      simp [h, this]
    · have : ¬ ((v.2.2.2.2.2.2.1.length : Int) < 1) := by omega
      simp only [h, this]
      rfl
  refine Eq.trans (congrArg (fun b => bif b then _ else _) b1) ?_
  simp only [cond_false, hc, Option.bind_some]
  have w0 : IntKind.i64.wrap (98 * 8) = 784 := rfl
  have w1 : IntKind.i64.wrap (v.2.2.1 + c) = v.2.2.1 + c := wrap_i64 (by omega) (by omega)
  have w2 : IntKind.i64.wrap (v.2.2.1 + c - 1) = v.2.2.1 + c - 1 := wrap_i64 (by omega) (by omega)
  have t1 : Int.tdiv (v.2.2.1 + c - 1) 8 = (v.2.2.1 + c - 1) / 8 := Int.tdiv_eq_ediv_of_nonneg (by omega)
  have t2 : Int.tdiv v.2.2.1 8 = v.2.2.1 / 8 := Int.tdiv_eq_ediv_of_nonneg (by omega)
  have w3 : IntKind.i64.wrap ((v.2.2.1 + c - 1) / 8) = (v.2.2.1 + c - 1) / 8 := wrap_i64 (by omega) (by omega)
  have w4 : IntKind.i64.wrap (v.2.2.1 / 8) = v.2.2.1 / 8 := wrap_i64 (by omega) (by omega)
  have w5 : IntKind.i64.wrap ((v.2.2.1 + c - 1) / 8 - v.2.2.1 / 8) = (v.2.2.1 + c - 1) / 8 - v.2.2.1 / 8 := wrap_i64 (by omega) (by omega)
  have w6 : IntKind.i64.wrap ((v.2.2.1 + c - 1) / 8 - v.2.2.1 / 8 + 1) = (v.2.2.1 + c - 1) / 8 - v.2.2.1 / 8 + 1 := wrap_i64 (by omega) (by omega)
  simp only [w0, w1, w2, t1, t2, w3, w4, w5, w6]
  have n1 : decide (n < 1) = false := decide_eq_false (by omega)
  have n2 : decide (5 < n) = false := decide_eq_false (by omega)
  have n3 : decide ((98 : Int) < 1) = false := rfl
  have n4 : decide ((256 : Int) < 98) = false := rfl
  have n5 : decide (v.2.2.1 < 0) = false := decide_eq_false (by omega)
  have n6 : decide (784 ≤ v.2.2.1) = false := decide_eq_false (by omega)
  have n7 : decide (1024 < c) = false := decide_eq_false (by omega)
  have n8 : decide (98 ≤ (v.2.2.1 + c - 1) / 8) = false := decide_eq_false (by omega)
  have n9 : decide (128 < (v.2.2.1 + c - 1) / 8 - v.2.2.1 / 8 + 1) = false := decide_eq_false (by omega)
  have m1 : decide (v.2.2.1 / 8 < 3) = false := decide_eq_false (by omega)
  have m2 : decide (v.2.2.1 / 8 ≤ 3) = false := decide_eq_false (by omega)
  simp only [n1, n2, n3, n4, n5, n6, n7, n8, n9, m1, m2, cond_false]
  by_cases h : v.2.1 < 0
  · simp [h]
  · by_cases h' : n ≤ v.2.1
    · simp [h, h']
    · simp only [h, h', decide_false, cond_false, or_self, if_false]
      cases decide (v.1 = 1) <;> rfl

/-! ### A batch is posted -/
theorem ppost_ok (k : Nat) (j : Nat) (q : List Tpending) (v : TVerb) (s L : Nat) (hj : j < 5) (hq : q.length ≤ 5) (hv : goodV v) (hn : v.2.1 = (j : Int)) (hs : s < L) :
    Ok (bodegaref6_Pair_Post k ((0:Int), (1:Int), (j : Int), q, ()) v 98 (s : Int)) (fun r => ∃ x, pendOk L x ∧ x.2.2.2.1 = (s : Int) ∧ r.2.1 = ((0:Int), (1:Int), (j : Int), q ++ [x], ())) := by
  unfold bodegaref6_Pair_Post
  rw [valid_good k v 5 hv (by omega) (by omega)]
  have h1 : (if v.2.1 < 0 ∨ 5 ≤ v.2.1 then (2 : Int) else 0) = 0 := if_neg (by omega)
  rw [h1]
  simp only [Option.bind_some, decide_true, Bool.not_true, cond_false, hn]
  refine Ok.els (decide_eq_false (by omega)) ?_
  have hw : v.2.2.2.2.2.2.1.length ≤ 8 := by obtain ⟨c, _, _, _, _, _, _, hw, _⟩ := hv; exact hw
  refine Ok.grd (decide_eq_true (by simp; omega)) ?_
  refine Ok.grd (decide_eq_true (by simp; omega)) ?_
  refine Ok.grd (decide_eq_true (by simp; omega)) ?_
  refine Ok.pure ⟨_, ?_, ?_, by rw [List.nil_append]⟩
  · exact ⟨hv, rfl, rfl, by simp only; omega, by simp only; omega⟩
  · rfl

/-- the fabric with a batch under way -/
def liv (ns : List TNode) (wt : Bool) (gt : List TClocksOutcome) (hv : List Bool) (a b : Int) (ps : List TPair) : TFabric := ((98:Int), ns, [(true, (1:Int), wt, gt, hv, a, b, ())], [ps], [], ())

def outOk (d : TClocksOutcome) : Prop := d.2.1.length ≤ 8 ∧ ∀ x ∈ d.2.1, wordOk x
def livOk (N L : Nat) (f : TFabric) : Prop :=
  ∃ ns gt hv a b ps, f = liv ns true gt hv a b ps ∧ ns.length = N ∧ (∀ n ∈ ns, nodeOk n) ∧ gt.length = L ∧ (∀ d ∈ gt, outOk d) ∧ hv.length = L ∧ pairsOk N L ps ∧ cov N hv ps ∧ tot ps ≤ L

theorem post_ok (k : Nat) (f : TFabric) (l : List TVerb) (N : Nat) (hN0 : 1 ≤ N) (hN5 : N ≤ 5) (hf : fabOk N (R0 N) f) (hl : GB l) (hk : 2000 ≤ k) :
    Ok (bodegaref6_Fabric_Post k f 0 l) (fun r => r.1 ≠ 0 ∨ livOk N l.length r.2.1) := by
  obtain ⟨ln, ns, R⟩ := f
  obtain ⟨h1, h2, h3, h4⟩ := hf
  simp only at h1 h2 h3 h4
  subst h1 h4
  have hl5 := hl.1
  unfold bodegaref6_Fabric_Post
  refine Ok.eqb (a := (true, (98, ns, R0 N), ())) rfl ?_
  refine Ok.els rfl ?_
  refine Ok.grd rfl ?_
  refine Ok.els rfl ?_
  refine Ok.ite (fun _ => Ok.pure (.inl (by simp))) fun hne => ?_
  have hpos : 0 < l.length := by simp at hne; cases l with | nil => simp at hne | cons => simp
  refine Ok.els (decide_eq_false (by omega)) ?_
  refine Ok.bind (P := fun o => (∀ a, o = .inl a → a.2.1 ≠ 0) ∧ ∀ b, o = .inr b → b = ((98, ns, R0 N), (0:Int), l, ()) ∧ ∀ i, i < l.length → 0 ≤ (l.getD i ((0:Int), (0:Int), (0:Int), (0:Int), (0:Int), (0:Int), ([] : (List Int)), (0:Int), (0:Int), ())).2.1 ∧ (l.getD i ((0:Int), (0:Int), (0:Int), (0:Int), (0:Int), (0:Int), ([] : (List Int)), (0:Int), (0:Int), ())).2.1 < (N : Int)) ?_ fun o ho => ?_
  · refine Ok.iter l.length (fun i s => s = ((98, ns, R0 N), (0:Int), l, (i : Int), ()) ∧ ∀ j, j < i → 0 ≤ (l.getD j ((0:Int), (0:Int), (0:Int), (0:Int), (0:Int), (0:Int), ([] : (List Int)), (0:Int), (0:Int), ())).2.1 ∧ (l.getD j ((0:Int), (0:Int), (0:Int), (0:Int), (0:Int), (0:Int), ([] : (List Int)), (0:Int), (0:Int), ())).2.1 < (N : Int)) (by omega) ⟨rfl, by intro j h; omega⟩ ?_
    rintro i s hi ⟨rfl, hb⟩
    simp only [bodegaref6_Fabric_Post_L1, nx (show i < 2000 by omega), h2, Int.toNat_natCast]
    refine Ok.ite (fun hc => ?_) fun hc => Ok.out ⟨(by intro a e; cases e), ?_⟩
    · have hc : i < l.length := by simp at hc; omega
      refine Ok.grd (inb hc) ?_
      rw [valid_good k _ (N : Int) (hl.2 _ (getD_mem hc)) (by omega) (by omega)]
      simp only [Option.bind_some]
      refine Ok.ite (fun hx => Ok.out ⟨?_, by intro b e; cases e⟩) fun hx => Ok.go ⟨hc, rfl, ?_⟩
      · intro a e
        cases e
        simp only [Bool.not_eq_true', decide_eq_false_iff_not] at hx
        exact hx
      · intro j hj
        by_cases e : j = i
        · subst e
          simp only [Bool.not_eq_false', decide_eq_true_eq] at hx
          split at hx
          · omega
          · rename_i hh
            omega
        · exact hb j (by omega)
    · have : i = l.length := by simp at hc; omega
      subst this
      intro b e
      cases e
      exact ⟨rfl, hb⟩
  refine Ok.sum (fun a e => Ok.pure (.inl (ho.1 a e))) fun b e => ?_
  obtain ⟨rfl, hb⟩ := ho.2 b e
  clear e ho
  refine Ok.bind (P := fun o => ∃ ps, o = (((98:Int), ns, [cl0], [ps], [], ()), (0:Int), l, ()) ∧ pairsOk N l.length ps ∧ tot ps ≤ l.length ∧ ∀ s, s < l.length → ∃ j, j < N ∧ ∃ x ∈ (ps.getD j ((0:Int), (0:Int), (0:Int), ([] : (List Tpending)), ())).2.2.2.1, x.2.2.2.1 = (s : Int)) ?_ ?_
  · refine Ok.iter l.length (fun i st => ∃ ps, st = (((98:Int), ns, [cl0], [ps], [], ()), (0:Int), l, (i : Int), ()) ∧ pairsOk N l.length ps ∧ tot ps ≤ i ∧ ∀ s, s < i → ∃ j, j < N ∧ ∃ x ∈ (ps.getD j ((0:Int), (0:Int), (0:Int), ([] : (List Tpending)), ())).2.2.2.1, x.2.2.2.1 = (s : Int)) (by omega) ⟨pairs0 N, rfl, ⟨pairs0_len N, ?_⟩, by rw [tot_pairs0]; omega, by intro s hs; omega⟩ ?_
    · intro j hj
      refine ⟨[], ?_, by simp⟩
      rw [getD_lt (by rw [pairs0_len]; exact hj)]
      simp [pairs0]
    · rintro i st hi ⟨ps, rfl, hp, ht, hc⟩
      simp only [bodegaref6_Fabric_Post_L2, nx (show i < 2000 by omega)]
      refine Ok.ite (fun hx => ?_) fun hx => ?_
      · have hx : i < l.length := by simp at hx; omega
        refine Ok.grd rfl ?_
        refine Ok.grd (inb hx) ?_
        obtain ⟨n0, n1⟩ := hb i hx
        simp only [Int.toNat_natCast]
        obtain ⟨j, hj⟩ : ∃ j : Nat, (l.getD i ((0:Int), (0:Int), (0:Int), (0:Int), (0:Int), (0:Int), ([] : (List Int)), (0:Int), (0:Int), ())).2.1 = (j : Int) := ⟨_, (Int.toNat_of_nonneg n0).symm⟩
        have hjN : j < N := by omega
        simp only [hj, Int.toNat_natCast]
        refine Ok.grd (inb (by show j < ps.length; rw [hp.1]; exact hjN)) ?_
        refine Ok.grd (inb hx) ?_
        obtain ⟨q, hq, hqs⟩ := hp.2 j hjN
        have hjl : j < ps.length := by rw [hp.1]; exact hjN
        have hlen := len_tot ps j ((0:Int), (0:Int), (0:Int), ([] : (List Tpending)), ()) hjl
        rw [hq] at hlen
        simp only at hlen
        have hpp := ppost_ok k j q _ i l.length (by omega) (by omega) (hl.2 _ (getD_mem (d := ((0:Int), (0:Int), (0:Int), (0:Int), (0:Int), (0:Int), ([] : (List Int)), (0:Int), (0:Int), ())) hx)) hj hx
        rw [← hq] at hpp
        refine Ok.bind hpp ?_
        rintro ⟨r1, r2, ⟨⟩⟩ ⟨x, hx1, hx2, e⟩
        simp only at e
        subst e
        refine Ok.go ⟨hx, ps.set j ((0:Int), (1:Int), (j : Int), q ++ [x], ()), rfl, hp.set hjN (all_app hqs (all_one hx1)), ?_, ?_⟩
        · have := tot_set ps j ((0:Int), (1:Int), (j : Int), q ++ [x], ()) ((0:Int), (0:Int), (0:Int), ([] : (List Tpending)), ()) hjl
          rw [hq] at this
          simp only [List.length_append, List.length_singleton] at this
          omega
        · intro s hs
          by_cases e : s = i
          · subst e
            refine ⟨j, hjN, x, ?_, hx2⟩
            rw [getD_set _ _ _ _ _ hjl]
            simp
          · obtain ⟨j', hj', y, hy, hys⟩ := hc s (by omega)
            refine ⟨j', hj', y, ?_, hys⟩
            rw [getD_set _ _ _ _ _ hjl]
            by_cases e2 : j' = j
            · subst e2
              rw [hq] at hy
              simp only [if_true]
              exact List.mem_append_left _ hy
            · simp only [e2, if_false]
              exact hy
      · have : i = l.length := by simp at hx; omega
        subst this
        exact Ok.out ⟨ps, rfl, hp, ht, hc⟩
  · rintro o ⟨ps, rfl, hp, ht, hc⟩
    refine Ok.grd rfl ?_
    refine Ok.grd (by simp; omega) ?_
    refine Ok.grd (by simp; omega) ?_
    refine Ok.pure (.inr ?_)
    refine ⟨ns, List.replicate l.length ((0:Int), ([] : List Int), ()), List.replicate l.length false, _, _, ps, rfl, h2, h3, by simp, ?_, by simp, hp, ?_, ht⟩
    · intro d hd
      rw [List.eq_of_mem_replicate hd]
      exact ⟨by simp, by simp⟩
    · intro s hs _
      exact hc s (by simpa using hs)

end Go.Proofs.YtkgjdglkkoabmaaGreat.N

namespace Go.Proofs.YtkgjdglkkoabmaaGreat.N
open Go.VL

theorem waiting_ok (k : Nat) (ns : List TNode) (gt : List TClocksOutcome) (hv : List Bool) (a b : Int) (ps : List TPair) (hl : hv.length ≤ 1000) (hk : 2000 ≤ k) :
    Ok (bodegaref6_Fabric_Waiting k (liv ns true gt hv a b ps) 0) (fun r => r.2.1 = liv ns true gt hv a b ps ∧ (0 < r.1 → ∃ s, s < hv.length ∧ hv.getD s false = false)) := by
  unfold bodegaref6_Fabric_Waiting
  refine Ok.grd rfl ?_
  refine Ok.els rfl ?_
  refine Ok.bind (P := fun o => o.1 = liv ns true gt hv a b ps ∧ (0 < o.2.1 → ∃ s, s < hv.length ∧ hv.getD s false = false)) ?_ fun o ho => Ok.pure ho
  refine Ok.iter hv.length (fun i s => ∃ n : Nat, n ≤ i ∧ s = (liv ns true gt hv a b ps, (0:Int), (n : Int), (i : Int), ()) ∧ (0 < n → ∃ s, s < hv.length ∧ hv.getD s false = false)) (by omega) ⟨0, by omega, rfl, by intro h; omega⟩ ?_
  rintro i s hi ⟨n, hn, rfl, hx⟩
  simp only [bodegaref6_Fabric_Waiting_L1, nx (show i < 2000 by omega), nx (show n < 2000 by omega)]
  refine Ok.grd rfl ?_
  refine Ok.ite (fun hc => ?_) fun hc => Ok.out ⟨rfl, fun h => hx (by simp only at h; omega)⟩
  have hc : i < hv.length := by
    simp only [decide_eq_true_eq] at hc
    exact Int.ofNat_lt.1 hc
  refine Ok.grd rfl ?_
  refine Ok.grd (inb hc) ?_
  refine Ok.ite (fun hd => ?_) fun _ => Ok.go ⟨hc, n, by omega, rfl, hx⟩
  refine Ok.go ⟨hc, n + 1, by omega, rfl, fun _ => ⟨i, hc, ?_⟩⟩
  simp only [Bool.not_eq_true'] at hd
  exact hd

theorem choices_ok (k : Nat) (ns : List TNode) (gt : List TClocksOutcome) (hv : List Bool) (a b : Int) (ps : List TPair) (N L : Nat) (hN5 : N ≤ 5) (hp : pairsOk N L ps) (hk : 2000 ≤ k) :
    Ok (bodegaref6_Fabric_Choices k (liv ns true gt hv a b ps)) (fun r => r.2.1 = liv ns true gt hv a b ps ∧ (∀ x ∈ r.1, ∃ j : Nat, j < N ∧ x = ((-1:Int), (0:Int), (j : Int), ()) ∧ 0 < (ps.getD j ((0:Int), (0:Int), (0:Int), ([] : (List Tpending)), ())).2.2.2.1.length)
      ∧ ∀ j, j < N → 0 < (ps.getD j ((0:Int), (0:Int), (0:Int), ([] : (List Tpending)), ())).2.2.2.1.length → r.1 ≠ []) := by
  have hpl := hp.1
  unfold bodegaref6_Fabric_Choices
  refine Ok.bind (P := fun o => o.1 = liv ns true gt hv a b ps ∧ (∀ x ∈ o.2.1, ∃ j : Nat, j < N ∧ x = ((-1:Int), (0:Int), (j : Int), ()) ∧ 0 < (ps.getD j ((0:Int), (0:Int), (0:Int), ([] : (List Tpending)), ())).2.2.2.1.length)
      ∧ ∀ j, j < N → 0 < (ps.getD j ((0:Int), (0:Int), (0:Int), ([] : (List Tpending)), ())).2.2.2.1.length → o.2.1 ≠ []) ?_ fun o ho => ?_
  · refine Ok.iter 1 (fun i s => (i = 0 ∧ s = (liv ns true gt hv a b ps, [], (0:Int), ())) ∨ (i = 1 ∧ ∃ l, s = (liv ns true gt hv a b ps, l, (1:Int), ()) ∧ (∀ x ∈ l, ∃ j : Nat, j < N ∧ x = ((-1:Int), (0:Int), (j : Int), ()) ∧ 0 < (ps.getD j ((0:Int), (0:Int), (0:Int), ([] : (List Tpending)), ())).2.2.2.1.length)
        ∧ ∀ j, j < N → 0 < (ps.getD j ((0:Int), (0:Int), (0:Int), ([] : (List Tpending)), ())).2.2.2.1.length → l ≠ [])) (by omega) (.inl ⟨rfl, rfl⟩) ?_
    rintro i s hi (⟨rfl, rfl⟩ | ⟨rfl, l, rfl, h1, h2⟩)
    · simp only [bodegaref6_Fabric_Choices_L1]
      refine Ok.grd rfl ?_
      refine Ok.bind (P := fun o => ∃ l, o = (liv ns true gt hv a b ps, l, (0:Int), ()) ∧ (∀ x ∈ l, ∃ j : Nat, j < N ∧ x = ((-1:Int), (0:Int), (j : Int), ()) ∧ 0 < (ps.getD j ((0:Int), (0:Int), (0:Int), ([] : (List Tpending)), ())).2.2.2.1.length)
        ∧ ∀ j, j < N → 0 < (ps.getD j ((0:Int), (0:Int), (0:Int), ([] : (List Tpending)), ())).2.2.2.1.length → l ≠ []) ?_ ?_
      · refine Ok.iter N (fun i s => ∃ l : List TChoice, l.length ≤ i ∧ s = (liv ns true gt hv a b ps, l, (0:Int), (i : Int), ()) ∧ (∀ x ∈ l, ∃ j : Nat, j < N ∧ x = ((-1:Int), (0:Int), (j : Int), ()) ∧ 0 < (ps.getD j ((0:Int), (0:Int), (0:Int), ([] : (List Tpending)), ())).2.2.2.1.length)
          ∧ ∀ j, j < i → 0 < (ps.getD j ((0:Int), (0:Int), (0:Int), ([] : (List Tpending)), ())).2.2.2.1.length → l ≠ []) (by omega) ⟨[], by simp, rfl, by simp, by intro j h; omega⟩ ?_
        rintro i s hi ⟨l, hl, rfl, h1, h2⟩
        simp only [bodegaref6_Fabric_Choices_L2, nx (show i < 2000 by omega)]
        refine Ok.grd rfl ?_
        have e0 : (liv ns true gt hv a b ps).2.2.2.1.getD (0 : Int).toNat ([] : List TPair) = ps := rfl
        rw [e0]
        refine Ok.ite (fun hc => ?_) fun hc => ?_
        · have hc : i < N := by simp at hc; omega
          refine Ok.grd rfl ?_
          refine Ok.grd (inb (by omega)) ?_
          simp only [Int.toNat_natCast]
          refine Ok.ite (fun hd => ?_) fun hd => ?_
          · refine Ok.grd (decide_eq_true (by simp; omega)) ?_
            refine Ok.go ⟨hc, _, by simp; omega, rfl, all_app h1 (all_one ⟨i, hc, rfl, ?_⟩), ?_⟩
            · simp only [decide_eq_true_eq] at hd
              exact Int.ofNat_lt.1 hd
            · intro j _ _; simp
          · refine Ok.go ⟨hc, l, by omega, rfl, h1, ?_⟩
            intro j hj hj2
            by_cases e : j = i
            · subst e
              simp only [decide_eq_false_iff_not] at hd
              exact absurd (Int.ofNat_lt.2 hj2) hd
            · exact h2 j (by omega) hj2
        · have : i = N := by simp at hc; omega
          subst this
          exact Ok.out ⟨l, rfl, h1, h2⟩
      · rintro o ⟨l, rfl, h1, h2⟩
        exact Ok.go ⟨by omega, .inr ⟨trivial, l, rfl, h1, h2⟩⟩
    · simp only [bodegaref6_Fabric_Choices_L1]
      exact Ok.out ⟨rfl, h1, h2⟩
  · obtain ⟨o1, o2, ⟨⟩⟩ := o
    obtain ⟨h0, h1, h2⟩ := ho
    simp only at h0 h1 h2
    subst h0
    refine Ok.bind (P := fun o => o = (liv ns true gt hv a b ps, o2, ())) ?_ fun o ho => ?_
    · refine Ok.iter 0 (fun i s => s = (liv ns true gt hv a b ps, o2, (i : Int), ())) (by omega) rfl ?_
      rintro i s hi rfl
      simp only [bodegaref6_Fabric_Choices_L3]
      refine Ok.els (decide_eq_false ?_) (Ok.out rfl)
      show ¬ ((i : Int) < ((([] : List TPair).length : Nat) : Int))
      simp
    · subst ho
      exact Ok.pure ⟨rfl, h1, h2⟩

/-! ### One step -/
theorem at_ok (k : Nat) (n : TNode) (i : Int) : Ok (bodegaref6_at k n i) (fun r => r.2.1 = n) := by
  unfold bodegaref6_at
  refine Ok.ite (fun _ => Ok.pure rfl) fun h => ?_
  rw [bif_or_nn] at h
  obtain ⟨h1, h2⟩ := h
  simp only [decide_eq_false_iff_not] at h1 h2
  refine Ok.grd (inbZ (by omega) (by omega)) (Ok.pure rfl)

theorem count_ok (k : Nat) (v : TVerb) : Ok (bodegaref4_Count k v) (fun _ => True) := by
  unfold bodegaref4_Count
  exact Ok.ite (fun _ => Ok.pure trivial) fun _ => Ok.ite (fun _ => Ok.pure trivial) fun _ => Ok.pure trivial
theorem control_ok (k : Nat) (v : TVerb) : Ok (bodegaref4_Control k v) (fun _ => True) := by
  unfold bodegaref4_Control
  exact Ok.bind (count_ok k v) fun _ _ => Ok.pure trivial
theorem check_ok (k : Nat) (v : TVerb) (a b c d : Int) : Ok (bodegaref4_Check k v a b c d) (fun _ => True) := by
  unfold bodegaref4_Check
  refine Ok.bind (P := fun _ => True) (Ok.ite (fun _ => control_ok k v) fun _ => Ok.pure trivial) fun _ _ => ?_
  refine Ok.ite (fun _ => Ok.pure trivial) fun _ => Ok.ite (fun _ => Ok.pure trivial) fun _ => ?_
  refine Ok.bind (control_ok k v) fun _ _ => ?_
  exact Ok.ite (fun _ => Ok.pure trivial) fun _ => Ok.ite (fun _ => Ok.pure trivial) fun _ => Ok.pure trivial

theorem count_good (k : Nat) (v : TVerb) (c : Int) (hk : (v.1 = 1 ∧ v.2.2.2.1 = c) ∨ (v.1 = 2 ∧ (v.2.2.2.2.2.2.1.length : Int) = c)) : bodegaref4_Count k v = some (c, ()) := by
  unfold bodegaref4_Count
  rcases hk with ⟨h, e⟩ | ⟨h, e⟩ <;> simp [h, e]

theorem pieces_good (k : Nat) (v : TVerb) (c : Int) (c1 : 1 ≤ c) (c8 : c ≤ 8) (hkd : (v.1 = 1 ∧ v.2.2.2.1 = c) ∨ (v.1 = 2 ∧ (v.2.2.2.2.2.2.1.length : Int) = c)) (a1 : 32 ≤ v.2.2.1) (a2 : v.2.2.1 + c ≤ 48) (a3 : v.2.2.1 % 8 + c ≤ 8) (hk : 2000 ≤ k) :
    bodegaref4_Pieces k v = some ([(v.2.2.1, c, ())], ()) := by
  unfold bodegaref4_Pieces
  rw [count_good k v c hkd]
  simp only [Option.bind_some]
  have L : Ok (bodegaref4_Pieces_L1_it k [] v.2.2.1 c) (fun o => o = ([(v.2.2.1, c, ())], ())) := by
    refine Ok.iter 1 (fun i s => (i = 0 ∧ s = ([], v.2.2.1, c, ())) ∨ (i = 1 ∧ ∃ x, s = ([(v.2.2.1, c, ())], x, (0:Int), ()))) (by omega) (.inl ⟨rfl, rfl⟩) ?_
    rintro i s hi (⟨rfl, rfl⟩ | ⟨rfl, x, rfl⟩)
    · simp only [bodegaref4_Pieces_L1]
      refine Ok.grd (decide_eq_true (by omega)) ?_
      have t2 : Int.tmod v.2.2.1 8 = v.2.2.1 % 8 := Int.tmod_eq_emod_of_nonneg (by omega)
      have w : IntKind.i64.wrap (8 - v.2.2.1 % 8) = 8 - v.2.2.1 % 8 := wrap_i64 (by omega) (by omega)
      have hd : decide (8 - v.2.2.1 % 8 < c) = false := decide_eq_false (by omega)
      have w0 : IntKind.i64.wrap (c - c) = 0 := by rw [Int.sub_self]; rfl
      simp only [t2, w, hd, cond_false, w0]
      refine Ok.grd (by rfl) ?_
      exact Ok.go ⟨by omega, .inr ⟨trivial, _, rfl⟩⟩
    · simp only [bodegaref4_Pieces_L1]
      exact Ok.els rfl (Ok.out rfl)
  obtain ⟨o, h1, rfl⟩ := L
  rw [h1]
  rfl

theorem exec_ok (k : Nat) (n : TNode) (v : TVerb) (c : Int) (hn : nodeOk n) (hw : ∀ x ∈ v.2.2.2.2.2.2.1, wordOk x) (c1 : 1 ≤ c) (c8 : c ≤ 8) (hkd : (v.1 = 1 ∧ v.2.2.2.1 = c) ∨ (v.1 = 2 ∧ (v.2.2.2.2.2.2.1.length : Int) = c)) (a1 : 32 ≤ v.2.2.1) (a2 : v.2.2.1 + c ≤ 48) (hk : 2000 ≤ k) :
    Ok (bodegaref6_execute k n v (v.2.2.1, c, ())) (fun r => nodeOk r.2.1 ∧ r.1.length ≤ 8 ∧ ∀ x ∈ r.1, wordOk x) := by
  unfold bodegaref6_execute
  have w : IntKind.i64.wrap (v.2.2.1 + c) = v.2.2.1 + c := wrap_i64 (by omega) (by omega)
  have hL := hn.1
  simp only [w]
  refine Ok.grd (by rw [hL]; simp; omega) ?_
  refine Ok.grd (decide_eq_true (by simp; omega)) ?_
  rcases hkd with ⟨h, e⟩ | ⟨h, e⟩
  · rw [h]
    refine Ok.grd rfl ?_
    refine Ok.pure ⟨hn, by simp; omega, all_app (by simp) (all_take hn.2 _ _)⟩
  · rw [h]
    refine Ok.els rfl ?_
    refine Ok.grd rfl ?_
    refine Ok.bind (P := fun o => nodeOk o.1) ?_ fun o ho => Ok.pure ⟨ho, by simp, by simp⟩
    refine Ok.iter c.toNat (fun i s => ∃ n', nodeOk n' ∧ s = (n', v, (v.2.2.1, c, ()), (i : Int), ())) (by omega) ⟨n, hn, rfl⟩ ?_
    rintro i s hi ⟨n', hn', rfl⟩
    have hL' := hn'.1
    simp only [bodegaref6_execute_L1, nx (show i < 2000 by omega)]
    refine Ok.ite (fun hc => ?_) fun hc => Ok.out hn'
    have hc : i < c.toNat := by simp at hc; omega
    have w0 : IntKind.i64.wrap (v.2.2.1 - v.2.2.1) = 0 := by rw [Int.sub_self]; rfl
    have w1 : IntKind.i64.wrap (0 + (i : Int)) = (i : Int) := by rw [wrap_i64 (by omega) (by omega)]; omega
    have w2 : IntKind.i64.wrap (v.2.2.1 + (i : Int)) = v.2.2.1 + (i : Int) := wrap_i64 (by omega) (by omega)
    simp only [w0, w1, w2]
    refine Ok.grd (inb (by omega)) ?_
    refine Ok.grd (inbZ (by omega) (by omega)) ?_
    refine Ok.go ⟨hc, _, ?_, rfl⟩
    exact hn'.put (getD_all hw zero_ok _)

theorem pstep_ok (k : Nat) (j : Nat) (x : Tpending) (q : List Tpending) (n : TNode) (L : Nat) (hx : pendOk L x) (hn : nodeOk n) (hq : (x :: q).length ≤ 1000) (hk : 2000 ≤ k) :
    Ok (bodegaref6_Pair_Step k ((0:Int), (1:Int), (j : Int), x :: q, ()) n) (fun r => ∃ d n', outOk d ∧ nodeOk n' ∧ ∃ p, r = (d, x.2.2.2.1, true, p, ((0:Int), (1:Int), (j : Int), q, ()), n', ())) := by
  obtain ⟨v, ex, acc, sl, ⟨⟩⟩ := x
  obtain ⟨hv, h1, h2, h3, h4⟩ := hx
  simp only at hv h1 h2 h3 h4
  subst h1 h2
  obtain ⟨c, c1, c8, hkd, a1, a2, a3, hw8, hww⟩ := id hv
  have hz : (decide ((0:Int) ≤ (0:Int)) && decide ((0:Int) < ((((v, (0:Int), ([] : List Int), sl, ()) :: q).length : Nat) : Int))) = true := inb (by simp)
  unfold bodegaref6_Pair_Step
  refine Ok.els (decide_eq_false (by simp; omega)) ?_
  refine Ok.grd hz ?_
  refine Ok.bind (P := fun o => ∃ c, o = (((0:Int), (1:Int), (j : Int), (v, (0:Int), ([] : List Int), sl, ()) :: q, ()), n, ((0:Int), ([] : List Int), ()), (v, (0:Int), ([] : List Int), sl, ()), c, ())) ?_ ?_
  · unfold bodegaref6_Pair_Step_J1
    refine Ok.ite (fun _ => Ok.pure ⟨_, rfl⟩) fun _ => ?_
    rw [hn.1, show IntKind.i64.wrap (Int.tdiv ((784 : Nat) : Int) 8) = 98 from rfl]
    simp only [List.getD_cons_zero]
    rw [valid_good k v 5 hv (by omega) (by omega)]
    simp only [Option.bind_some]
    refine Ok.ite (fun _ => Ok.pure ⟨_, rfl⟩) fun _ => ?_
    rw [door_at k 0 (by omega) (by omega)]
    simp only [Option.bind_some]
    refine Ok.bind (at_ok k n _) ?_
    rintro ⟨r1, r2, ⟨⟩⟩ e1
    simp only at e1
    subst e1
    refine Ok.bind (at_ok k r2 _) ?_
    rintro ⟨r3, r4, ⟨⟩⟩ e2
    simp only at e2
    subst e2
    refine Ok.bind (at_ok k r4 _) ?_
    rintro ⟨r5, r6, ⟨⟩⟩ e3
    simp only at e3
    subst e3
    refine Ok.bind (check_ok k v _ _ _ _) fun ck _ => Ok.pure ⟨_, rfl⟩
  · rintro o ⟨cd, rfl⟩
    have ht : (([] : List Tpending) ++ ((List.take (((((v, (0:Int), ([] : List Int), sl, ()) :: q).length : Nat) : Int).toNat) ((v, (0:Int), ([] : List Int), sl, ()) :: q)).drop 1)) = q := by simp
    have g1 : (decide ((0:Int) ≤ (1:Int)) && decide ((1:Int) ≤ ((((v, (0:Int), ([] : List Int), sl, ()) :: q).length : Nat) : Int)) && decide (((((v, (0:Int), ([] : List Int), sl, ()) :: q).length : Nat) : Int) ≤ ((((v, (0:Int), ([] : List Int), sl, ()) :: q).length : Nat) : Int))) = true := by simp; omega
    have g2 : decide (([] : List Tpending).length + ((List.take (((((v, (0:Int), ([] : List Int), sl, ()) :: q).length : Nat) : Int).toNat) ((v, (0:Int), ([] : List Int), sl, ()) :: q)).drop 1).length < 1073741824) = true := decide_eq_true (by simp at hq ⊢; omega)
    refine Ok.ite (fun _ => ?_) fun _ => ?_
    · refine Ok.grd g1 ?_
      refine Ok.grd g2 ?_
      refine Ok.pure ⟨(cd, [], ()), n, ⟨by simp, by simp⟩, hn, true, ?_⟩
      simp only [ht]
    · simp only
      rw [pieces_good k v c c1 c8 hkd a1 a2 a3 hk]
      simp only [Option.bind_some]
      refine Ok.grd (by rfl) ?_
      refine Ok.grd (by rfl) ?_
      refine Ok.bind (exec_ok k n v c hn hww c1 c8 hkd a1 a2 hk) fun ex hex => ?_
      refine Ok.grd (decide_eq_true (by simp; omega)) ?_
      refine Ok.els (by rfl) ?_
      refine Ok.grd g1 ?_
      refine Ok.grd g2 ?_
      refine Ok.pure ⟨((0:Int), (([] ++ []) ++ ex.1), ()), ex.2.1, ⟨by simpa using hex.2.1, by simpa using hex.2.2⟩, hex.1, true, ?_⟩
      simp only [ht]

end Go.Proofs.YtkgjdglkkoabmaaGreat.N

namespace Go.Proofs.YtkgjdglkkoabmaaGreat.N
open Go.VL

theorem step_ok (k : Nat) (N L : Nat) (hN5 : N ≤ 5) (hL : L ≤ 5) (ns : List TNode) (gt : List TClocksOutcome) (hv : List Bool) (a b : Int) (ps : List TPair) (j : Nat) (hj : j < N)
    (h1 : ns.length = N) (h2 : ∀ n ∈ ns, nodeOk n) (h3 : gt.length = L) (h4 : ∀ d ∈ gt, outOk d) (h5 : hv.length = L) (h6 : pairsOk N L ps) (h7 : cov N hv ps) (h8 : tot ps ≤ L)
    (hne : 0 < (ps.getD j ((0:Int), (0:Int), (0:Int), ([] : (List Tpending)), ())).2.2.2.1.length) (hk : 2000 ≤ k) :
    Ok (bodegaref6_Fabric_Step k (liv ns true gt hv a b ps) ((-1:Int), (0:Int), (j : Int), ())) (fun r => ∃ ns' gt' hv' ps', r.2.1 = liv ns' true gt' hv' a b ps' ∧ ns'.length = N ∧ (∀ n ∈ ns', nodeOk n) ∧ gt'.length = L ∧ (∀ d ∈ gt', outOk d) ∧ hv'.length = L ∧ pairsOk N L ps' ∧ cov N hv' ps' ∧ tot ps' + 1 = tot ps) := by
  have hjl : j < ps.length := by rw [h6.1]; exact hj
  have hlen := len_tot ps j ((0:Int), (0:Int), (0:Int), ([] : (List Tpending)), ()) hjl
  obtain ⟨q, hq, hqs⟩ := h6.2 j hj
  rw [hq] at hlen hne
  simp only at hlen hne
  obtain ⟨x, q', rfl⟩ : ∃ x q', q = x :: q' := by cases q with | nil => simp at hne | cons x q' => exact ⟨x, q', rfl⟩
  have hx := hqs x (by simp)
  have hnj : nodeOk (ns.getD j (([] : (List Int)), false, ())) := h2 _ (getD_mem (by omega))
  have hst := pstep_ok k j x q' _ L hx hnj (by omega) hk
  rw [← hq] at hst
  obtain ⟨⟨r1, r2, r3, r4, r5, r6, ⟨⟩⟩, e, d, n', hd, hn', p, hr⟩ := hst
  simp only [Prod.mk.injEq, and_true] at hr
  obtain ⟨rfl, rfl, rfl, rfl, rfl, rfl⟩ := hr
  unfold bodegaref6_Fabric_Step
  refine Ok.els rfl ?_
  refine Ok.els ?_ ?_
  · have b1 : decide ((j : Int) < 0) = false := decide_eq_false (by omega)
    have b2 : decide ((((liv ns true gt hv a b ps).2.1.length : Nat) : Int) ≤ (j : Int)) = false := decide_eq_false (by show ¬ (((ns.length : Nat) : Int) ≤ (j : Int)); omega)
    simp only [b1, b2]
    rfl
  refine Ok.grd rfl ?_
  refine Ok.grd (inb (show j < ps.length from hjl)) ?_
  refine Ok.grd (inb (show j < ns.length by omega)) ?_
  simp only
  have hlt : bodegaref6_Pair_Step_lt0 k (liv ns true gt hv a b ps) 0 (j : Int) (j : Int) = some (r1, x.2.2.2.1, true, r4, liv (ns.set j r6) true gt hv a b (ps.set j ((0:Int), (1:Int), (j : Int), q', ())), ()) := by
    unfold bodegaref6_Pair_Step_lt0
    simp only [Int.toNat_natCast]
    have e' : bodegaref6_Pair_Step k (((liv ns true gt hv a b ps).2.2.2.1.getD (0 : Int).toNat ([] : (List TPair))).getD j ((0:Int), (0:Int), (0:Int), ([] : (List Tpending)), ())) ((liv ns true gt hv a b ps).2.1.getD j (([] : (List Int)), false, ())) = _ := e
    rw [e']
    rfl
  refine Ok.eqb hlt ?_
  refine Ok.grd rfl ?_
  refine Ok.grd rfl ?_
  refine Ok.grd rfl ?_
  refine Ok.grd (inbZ hx.2.2.2.1 (by show x.2.2.2.1 < ((gt.length : Nat) : Int); rw [h3]; exact hx.2.2.2.2)) ?_
  refine Ok.grd (inbZ hx.2.2.2.1 (by show x.2.2.2.1 < ((hv.length : Nat) : Int); rw [h5]; exact hx.2.2.2.2)) ?_
  refine Ok.pure ⟨ns.set j r6, gt.set x.2.2.2.1.toNat r1, hv.set x.2.2.2.1.toNat true, ps.set j ((0:Int), (1:Int), (j : Int), q', ()), rfl, by simpa using h1, all_set h2 hn', by simpa using h3, all_set h4 hd, by simpa using h5, h6.set hj (fun y hy => hqs y (by simp [hy])), ?_, ?_⟩
  · intro s hs hf
    have hs' : s < hv.length := by simpa using hs
    have hsl : x.2.2.2.1.toNat < hv.length := by have := hx.2.2.2.1; have := hx.2.2.2.2; omega
    rw [getD_set _ _ _ _ _ hsl] at hf
    by_cases es : s = x.2.2.2.1.toNat
    · simp [es] at hf
    · simp only [es, if_false] at hf
      obtain ⟨j', hj', y, hy, hys⟩ := h7 s hs' hf
      refine ⟨j', hj', y, ?_, hys⟩
      rw [getD_set _ _ _ _ _ hjl]
      by_cases ej : j' = j
      · subst ej
        rw [hq] at hy
        simp only [List.mem_cons] at hy
        simp only [if_true]
        rcases hy with rfl | hy
        · exfalso
          apply es
          omega
        · exact hy
      · simp only [ej, if_false]
        exact hy
  · have := tot_set ps j ((0:Int), (1:Int), (j : Int), q', ()) ((0:Int), (0:Int), (0:Int), ([] : (List Tpending)), ()) hjl
    rw [hq] at this
    simp only [List.length_cons] at this
    omega

theorem loop_ok (k : Nat) (f : TFabric) (N L : Nat) (hN5 : N ≤ 5) (hL : L ≤ 5) (hf : livOk N L f) (hk : 2000 ≤ k) : Ok (bodegahand_Play_L1_it k f 0) (fun o => livOk N L o.1 ∧ o.2.1 = 0) := by
  let m : TFabric × Int × Unit → Nat := fun s => tot (s.1.2.2.2.1.getD 0 [])
  refine Ok.meas (fun s => livOk N L s.1 ∧ s.2.1 = 0) m ?_ k _ ?_ ⟨hf, rfl⟩
  · rintro ⟨f', c, ⟨⟩⟩ ⟨h, hc⟩
    simp only at h hc
    subst hc
    obtain ⟨ns, gt, hv, a, b, ps, rfl, h1, h2, h3, h4, h5, h6, h7, h8⟩ := h
    simp only [bodegahand_Play_L1]
    refine Ok.bind (waiting_ok k ns gt hv a b ps (by omega) hk) ?_
    rintro ⟨w, f1, ⟨⟩⟩ ⟨e, hw⟩
    simp only at e hw
    subst e
    refine Ok.ite (fun hc => ?_) fun _ => ?_
    · obtain ⟨s, hs, hs2⟩ := hw (by simpa using hc)
      obtain ⟨j, hj, y, hy, _⟩ := h7 s hs hs2
      have hjne : 0 < (ps.getD j ((0:Int), (0:Int), (0:Int), ([] : (List Tpending)), ())).2.2.2.1.length := List.length_pos_of_mem hy
      refine Ok.bind (choices_ok k ns gt hv a b ps N L hN5 h6 hk) ?_
      rintro ⟨l, f2, ⟨⟩⟩ ⟨e, hl1, hl2⟩
      simp only at e hl1 hl2
      subst e
      have hln := hl2 j hj hjne
      have hlp : 0 < l.length := by cases l with | nil => exact absurd rfl hln | cons => simp
      refine Ok.grd (inb hlp) ?_
      obtain ⟨j2, hj2, hx, hne⟩ := hl1 _ (getD_mem (d := ((0:Int), (0:Int), (0:Int), ())) hlp)
      simp only
      rw [hx]
      refine Ok.bind (step_ok k N L hN5 hL ns gt hv a b ps j2 hj2 h1 h2 h3 h4 h5 h6 h7 h8 hne hk) ?_
      rintro ⟨r, f3, ⟨⟩⟩ ⟨ns', gt', hv', ps', e, g1, g2, g3, g4, g5, g6, g7, g8⟩
      simp only at e
      subst e
      refine Ok.go ⟨⟨⟨ns', gt', hv', a, b, ps', rfl, g1, g2, g3, g4, g5, g6, g7, by omega⟩, rfl⟩, ?_⟩
      show tot ps' < tot ps
      omega
    · exact Ok.out ⟨⟨ns, gt, hv, a, b, ps, rfl, h1, h2, h3, h4, h5, h6, h7, h8⟩, rfl⟩
  · obtain ⟨ns, gt, hv, a, b, ps, rfl, h1, h2, h3, h4, h5, h6, h7, h8⟩ := hf
    show tot ps < k
    omega

def repOk (l : List TClocksOutcome) : Prop := l.length ≤ 5 ∧ ∀ d ∈ l, outOk d

theorem take_ok (k : Nat) (f : TFabric) (N L : Nat) (hL : L ≤ 5) (hf : livOk N L f) (hk : 2000 ≤ k) : Ok (bodegaref6_Fabric_Take k f 0) (fun r => repOk r.1) := by
  obtain ⟨ns, gt, hv, a, b, ps, rfl, h1, h2, h3, h4, h5, h6, h7, h8⟩ := hf
  unfold bodegaref6_Fabric_Take
  refine Ok.eqb (a := (true, liv ns true gt hv a b ps, ())) rfl ?_
  refine Ok.grd rfl ?_
  refine Ok.bind (P := fun r => r.2.1 = liv ns true gt hv a b ps) ((waiting_ok k ns gt hv a b ps (by omega) hk).mono fun _ h => h.1) ?_
  rintro ⟨w, f1, ⟨⟩⟩ e
  simp only at e
  subst e
  refine Ok.ite (fun _ => Ok.pure ⟨by simp, by simp⟩) fun _ => ?_
  refine Ok.grd rfl ?_
  refine Ok.grd rfl ?_
  refine Ok.grd rfl ?_
  refine Ok.grd rfl ?_
  exact Ok.pure ⟨by show gt.length ≤ 5; omega, h4⟩

theorem play_ok (k : Nat) (f : TFabric) (l : List TVerb) (N : Nat) (hN0 : 1 ≤ N) (hN5 : N ≤ 5) (hf : fabOk N (R0 N) f) (hl : GB l) (hk : 2000 ≤ k) : Ok (bodegahand_Play k f 0 l) (fun r => repOk r.1) := by
  unfold bodegahand_Play
  refine Ok.bind (post_ok k f l N hN0 hN5 hf hl hk) fun r hr => ?_
  refine Ok.ite (fun _ => Ok.pure ⟨by simp, by simp⟩) fun h => ?_
  have h0 : livOk N l.length r.2.1 := by
    rcases hr with h' | h'
    · simp at h; exact absurd h h'
    · exact h'
  refine Ok.bind (loop_ok k r.2.1 N l.length hN5 hl.1 h0 hk) ?_
  rintro ⟨o1, o2, ⟨⟩⟩ ⟨h1, h2⟩
  simp only at h1 h2
  subst h2
  refine Ok.bind (take_ok k o1 N l.length hl.1 h1 hk) fun q hq => Ok.pure hq

/-! ### Replies, altered -/
def alterOk (l : List TAlter) : Prop := l.length ≤ 6 ∧ ∀ a ∈ l, wordOk a.2.2.2.1
def outN (n : Nat) (d : TClocksOutcome) : Prop := d.2.1.length ≤ n ∧ ∀ x ∈ d.2.1, wordOk x
theorem outN.mono {n m : Nat} {d : TClocksOutcome} (h : outN n d) (hm : n ≤ m) : outN m d := ⟨Nat.le_trans h.1 hm, h.2⟩

theorem altered_ok (k : Nat) (d : List TClocksOutcome) (l : List TAlter) (hd : repOk d) (hl : alterOk l) (hk : 2000 ≤ k) : Ok (bodegahand_Altered k d 0 l) (fun r => ∀ o ∈ r.1, ∀ x ∈ o.2.1, wordOk x) := by
  have hd1 := hd.1
  have hl1 := hl.1
  unfold bodegahand_Altered
  refine Ok.grd (decide_eq_true (by simp; omega)) ?_
  refine Ok.bind (P := fun o => ∀ q ∈ o.1, ∀ x ∈ q.2.1, wordOk x) ?_ fun o ho => Ok.pure ho
  refine Ok.iter l.length (fun i s => ∃ out : List TClocksOutcome, out.length ≤ 5 ∧ (∀ o ∈ out, outN (8 + i) o) ∧ s = ((0:Int), l, out, (i : Int), ())) (by omega) ⟨[] ++ d, by simpa using hd.1, hd.2, rfl⟩ ?_
  rintro i s hi ⟨out, ho1, ho2, rfl⟩
  have up : ∀ o ∈ out, outN (8 + (i + 1)) o := fun o h => (ho2 o h).mono (by omega)
  simp only [bodegahand_Altered_L1]
  refine Ok.ite (fun hc => ?_) fun hc => Ok.out fun q hq => (ho2 q hq).2
  have hc : i < l.length := by simp at hc; omega
  have hal := hl.2 _ (getD_mem (d := ((0:Int), (0:Int), (0:Int), (0:Int), ())) hc)
  refine Ok.grd (inb hc) ?_
  refine Ok.bind (pick_ok k _ 20 (by omega) (by omega)) fun r1 _ => ?_
  refine Ok.ite (fun _ => ?_) fun hne => ?_
  · simp only [nx (show i < 2000 by omega)]
    exact Ok.go ⟨hc, out, ho1, up, rfl⟩
  have hpos : 0 < out.length := by
    rw [bif_or_nn] at hne
    have := hne.2
    simp only [decide_eq_false_iff_not] at this
    omega
  refine Ok.bind (pick_ok k _ (out.length : Int) (by omega) (by omega)) fun r2 h2 => ?_
  refine Ok.grd (inbZ h2.1 h2.2) ?_
  refine Ok.grd (inbZ h2.1 h2.2) ?_
  have hx := ho2 _ (getD_mem (d := ((0:Int), ([] : (List Int)), ())) (show r2.1.toNat < out.length by omega))
  have hx1 := hx.1
  refine Ok.grd (decide_eq_true (by rw [List.length_nil]; omega)) ?_
  refine Ok.bind (pick_ok k _ 8 (by omega) (by omega)) fun r3 h3 => ?_
  simp only [List.nil_append, Int.toNat_natCast]
  generalize hg : out.getD r2.1.toNat ((0:Int), ([] : (List Int)), ()) = x at hx hx1
  generalize l.getD i ((0:Int), (0:Int), (0:Int), (0:Int), ()) = a at hal
  refine Ok.bind (P := fun o => (∃ x', outN (8 + (i + 1)) x' ∧ o = .inl ((0:Int), l, out, (i : Int), r2.1, x', ())) ∨ ∃ out', out'.length ≤ 5 ∧ (∀ q ∈ out', outN (8 + (i + 1)) q) ∧ o = .inr ((0:Int), l, out', (i : Int), ())) ?_ ?_
  · unfold bodegahand_Altered_J1
    have xs : outN (8 + (i + 1)) x := hx.mono (by omega)
    refine Ok.ite (fun _ => Ok.pure (.inl ⟨_, ⟨by simp, by simp⟩, rfl⟩)) fun _ => ?_
    refine Ok.ite (fun _ => Ok.pure (.inl ⟨_, ⟨by simp, by simp⟩, rfl⟩)) fun _ => ?_
    refine Ok.ite (fun _ => ?_) fun _ => ?_
    · refine Ok.grd (decide_eq_true (by simp; omega)) ?_
      exact Ok.pure (.inl ⟨_, ⟨by simp; omega, all_app hx.2 (all_one hal)⟩, rfl⟩)
    refine Ok.ite (fun _ => ?_) fun _ => ?_
    · have w : IntKind.i64.wrap ((out.length : Int) - 1) = (out.length : Int) - 1 := wrap_i64 (by omega) (by omega)
      rw [w]
      refine Ok.grd (by simp; omega) ?_
      exact Ok.pure (.inr ⟨_, by simp; omega, all_take up _ _, rfl⟩)
    refine Ok.ite (fun _ => Ok.pure (.inl ⟨((12 : Int), x.2), xs, rfl⟩)) fun _ => ?_
    refine Ok.ite (fun hp => ?_) fun _ => Ok.pure (.inl ⟨_, xs, rfl⟩)
    simp only [decide_eq_true_eq] at hp
    refine Ok.bind (pick_ok k _ (x.2.1.length : Int) (by omega) (by omega)) fun r4 h4 => ?_
    refine Ok.grd (inbZ h4.1 h4.2) ?_
    refine Ok.pure (.inl ⟨_, ?_, rfl⟩)
    exact ⟨by simp only [List.length_set]; omega, all_set hx.2 hal⟩
  · rintro o (⟨x', hx', rfl⟩ | ⟨out', h1, h2', rfl⟩)
    · simp only [Sum.elim_inl, nx (show i < 2000 by omega)]
      refine Ok.grd (inbZ h2.1 h2.2) ?_
      refine Ok.go ⟨hc, _, ?_, ?_, rfl⟩
      · rw [List.length_set]; exact ho1
      · exact all_set up hx'
    · simp only [Sum.elim_inr, nx (show i < 2000 by omega)]
      exact Ok.go ⟨hc, out', h1, h2', rfl⟩

theorem replies_ok (k : Nat) (N : Nat) (b : List TVerb) (w : List TPoke) (al : List TAlter) (more : Bool) (hN0 : 1 ≤ N) (hN5 : N ≤ 5) (hb : GB b) (hw : worldOk w) (ha : alterOk al) (hk : 2000 ≤ k) :
    Ok (bodegalaw15_replies k (N : Int) b w al more) (fun r => r.1 ≠ [] ∧ gotOk r.1) := by
  unfold bodegalaw15_replies
  refine Ok.bind (prepare_ok k N w hN0 hN5 hw hk) ?_
  rintro ⟨r, ⟨⟩⟩ ⟨f, h, hf⟩
  simp only at h
  subst h
  refine Ok.grd rfl ?_
  refine Ok.bind (play_ok k f b N hN0 hN5 hf hb hk) fun p hp => ?_
  refine Ok.bind (altered_ok k p.1 al hp ha hk) fun q hq => ?_
  refine Ok.ite (fun _ => ?_) fun _ => ?_
  · refine Ok.grd (by rfl) ?_
    refine Ok.pure ⟨by simp, ?_⟩
    intro g hg d hd
    rcases List.mem_append.1 hg with h | h
    · rw [List.mem_singleton.1 h] at hd; exact hq d hd
    · rw [List.mem_singleton.1 h] at hd; simp at hd
  · refine Ok.pure ⟨by simp, ?_⟩
    intro g hg d hd
    rw [List.mem_singleton.1 hg] at hd; exact hq d hd

end Go.Proofs.YtkgjdglkkoabmaaGreat.N

namespace Go.Proofs.YtkgjdglkkoabmaaGreat.N
open Go.VL

theorem start1 : bodegahand_Start 2000 1 = some (((0:Int), [((0:Int),(1:Int),true,())], ()), ()) := by kernel_rfl
theorem lease1 : bodegaref1_Lease 2000 1 9 = some (4294967305, 0, ()) := by kernel_rfl
theorem ren1 : renS ((1:Int), (1:Int), (9:Int), ((0:Int), [((0:Int),(1:Int),true,())], ()), ()) [] 0 4294967305 = ([((2:Int),(0:Int),(41:Int),(0:Int),(0:Int),(0:Int),[(4294967305:Int)],(1:Int),(1:Int),())], 0, false) := by kernel_rfl
theorem renew1 : lease_Renew 2000 ((1:Int), (1:Int), (9:Int), ((0:Int), [((0:Int),(1:Int),true,())], ()), ()) [] = some ([((2:Int),(0:Int),(41:Int),(0:Int),(0:Int),(0:Int),[(4294967305:Int)],(1:Int),(1:Int),())], (0,()), false, ()) := by
  obtain ⟨e, w, _, he, a1, _⟩ := renew_eq 2000 ((1:Int), (1:Int), (9:Int), ((0:Int), [((0:Int),(1:Int),true,())], ()), ()) [] (Nat.le_refl _) (by simp)
  simp only at he
  rw [lease1] at he
  injection he with he
  injection he with h1 h2
  injection h2 with h2
  subst h1 h2
  rw [a1, ren1]

theorem awake_eq : bodegalaw15_awake 2000 = some (true, ()) := by
  unfold bodegalaw15_awake
  rw [start1]
  simp only [Option.bind_some]
  rw [renew1]
  kernel_rfl

theorem Ok.true {o : Option (Bool × Unit)} (h : Ok o (fun r => r.1 = true)) : o = some (true, ()) := by
  obtain ⟨⟨a, ⟨⟩⟩, rfl, h⟩ := h
  simp only at h
  rw [h]

theorem wf_u64 {x : Int} (h : (Lit.int .u64 x).wf = true) : wordOk x := by
  simp [Lit.wf, IntKind.min, IntKind.max, IntKind.signed, IntKind.bits] at h
  exact ⟨by omega, by omega⟩

theorem gb_nil : GB [] := ⟨by simp, by simp⟩

/-! ### Renew -/
theorem renS_gb (j : TRenewJob) (e w : Int) (hw : wordOk w) (hl : j.2.2.2.1.2.1.length ≤ 5) : GB (renS j [] e w).1 := by
  unfold renS
  split
  · exact gb_nil
  · rename_i h
    split
    · exact gb_nil
    · split
      · exact gb_nil
      · have h' : 0 ≤ j.1 ∧ j.1 < 6 := by omega
        exact renB_good _ _ _ hw hl h'.1 h'.2
theorem tk_over (b : List TVerb) (got : List (List TClocksOutcome)) (hg : got ≠ []) : (tk b got).2.2.2.1 = true ∧ (tk b got).1 = [] := by
  cases got with
  | nil => exact absurd rfl hg
  | cons g rest =>
    simp only [tk]
    split <;> exact ⟨rfl, rfl⟩
theorem renS_over (j : TRenewJob) (got : List (List TClocksOutcome)) (e w : Int) (hg : got ≠ []) : (renS j got e w).2.2 = true ∧ (renS j got e w).1 = [] := by
  unfold renS
  split
  · exact ⟨rfl, rfl⟩
  · split
    · exact ⟨rfl, rfl⟩
    · split
      · exact ⟨rfl, rfl⟩
      · exact tk_over _ _ hg

theorem nodes_in {r : Int × Unit} (h : 0 ≤ r.1 ∧ r.1 < 5) : ∃ N : Nat, 1 ≤ N ∧ N ≤ 5 ∧ IntKind.i64.wrap (r.1 + 1) = (N : Int) :=
  ⟨(r.1 + 1).toNat, by omega, by omega, by rw [wrap_i64 (by omega) (by omega)]; omega⟩

theorem renews_true (r : TRaw) (nodes : Int) (world : List TPoke) (alter : List TAlter) (more : Bool) (hw : ∀ p ∈ world, wordOk p.2.2.2.2.2.1) (ha : ∀ a ∈ alter, wordOk a.2.2.2.1) :
    bodegalaw15_LeaseRenews 2000 r nodes world alter more = some (true, ()) := by
  apply Ok.true
  unfold bodegalaw15_LeaseRenews
  refine Ok.ite (fun _ => Ok.pure rfl) fun hc => ?_
  rw [bif_or_nn] at hc
  simp only [decide_eq_false_iff_not] at hc
  have hk : 2000 ≤ 2000 := Nat.le_refl _
  refine Ok.bind (pick_ok 2000 _ 5 (by omega) (by omega)) fun r1 h1 => ?_
  obtain ⟨N, hN0, hN5, hN⟩ := nodes_in h1
  simp only [hN]
  refine Ok.bind (rawrenew_ok 2000 r (N : Int) (by omega) (by omega) hk) ?_
  rintro ⟨j, ⟨⟩⟩ hj
  simp only at hj
  obtain ⟨e, w, hww, he, a1, a2⟩ := renew_eq 2000 j [] hk hj
  have gb := renS_gb j e w hww hj
  refine Ok.eqb a1 ?_
  refine Ok.eqb a2 ?_
  have hb : ∀ b : Bool, (b == b) = true := by decide
  simp only [hb, Bool.not_true, Bool.not_false, cond_true, cond_false]
  refine Ok.eqb (same_refl 2000 _ gb hk) ?_
  simp only [decide_true, Bool.not_true, Bool.not_false, cond_true, cond_false]
  refine Ok.eqb awake_eq ?_
  simp only [Bool.not_true, cond_false]
  refine Ok.bind (replies_ok 2000 N _ world alter more hN0 hN5 gb ⟨by omega, hw⟩ ⟨by omega, ha⟩ hk) ?_
  rintro ⟨got, ⟨⟩⟩ ⟨hg, _⟩
  simp only at hg
  obtain ⟨e', w', _, he', b1, b2⟩ := renew_eq 2000 j got hk hj
  obtain ⟨o1, o2⟩ := renS_over j got e' w' hg
  refine Ok.eqb b1 ?_
  refine Ok.eqb b2 ?_
  refine Ok.pure ?_
  simp [o1, o2]

end Go.Proofs.YtkgjdglkkoabmaaGreat.N
