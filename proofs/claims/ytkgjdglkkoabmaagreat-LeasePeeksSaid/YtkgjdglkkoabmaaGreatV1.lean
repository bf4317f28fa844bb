import Derived.Calls
import Derived.Orders
import Derived.KernelRfl
import Derived.Laws.World
import Derived.Laws.Cells
import Derived.Below

namespace Go.VL

/-! ### Types and native values -/
inductive Ty where
  | int (k : IntKind) | bool | str | unit | pair (a b : Ty) | list (a : Ty) | arr (n : Nat) (a : Ty) | ptr (a : Ty) | fn
  deriving DecidableEq

@[reducible] def Ty.den : Ty → Type
  | .int _ => Int
  | .bool => Bool
  | .str => List Int
  | .unit => Unit
  | .pair a b => a.den × b.den
  | .list a => List a.den
  | .arr _ a => List a.den
  | .ptr a => Option a.den
  | .fn => Option Nat

def Ty.zero : (t : Ty) → t.den
  | .int _ => (0 : Int)
  | .bool => false
  | .str => ([] : List Int)
  | .unit => ()
  | .pair a b => (a.zero, b.zero)
  | .list _ => []
  | .arr n a => List.replicate n a.zero
  | .ptr _ => none
  | .fn => none

def Ty.dep : Ty → Nat
  | .pair a b => a.dep + b.dep + 1
  | .arr _ a => a.dep + 1
  | _ => 1

def Ty.sz : Ty → Nat
  | .unit => 0
  | .pair a b => a.sz + b.sz
  | .arr n a => n * a.sz
  | _ => 1

def Ty.agg : Ty → Bool
  | .unit | .pair _ _ | .arr _ _ => true
  | _ => false

/-- Marks: s shared (never written again), o owned, h moved out, p for pairs. -/
inductive Md where
  | s | h | o (m : Md) | p (a b : Md)
  deriving DecidableEq

def Md.l : Md → Md | .p a _ => a | m => m
def Md.r : Md → Md | .p _ b => b | m => m
def Md.e : Md → Md | .o m => m | m => m
def Md.mk : Md → Md → Md | .s, .s => .s | a, b => .p a b
def Md.oo : Md → Md | .s => .s | m => .o m
def Md.plain : Md → Bool | .s => true | _ => false
def Md.noHole : Md → Bool | .h => false | .s => true | .o m => m.noHole | .p a b => a.noHole && b.noHole
def zmd : Ty → Md
  | .pair a b => Md.mk (zmd a) (zmd b)
  | .list _ => .o .s
  | .arr _ a => (zmd a).oo
  | _ => .s

structure TV where
  t : Ty
  m : Md
  x : t.den

inductive Step where
  | fst | snd | idx (i : Int) | der

def getP : List Step → (t : Ty) → Md → t.den → Option TV
  | [], t, m, x => some ⟨t, m, x⟩
  | .fst :: p, .pair a _, m, x => getP p a m.l x.1
  | .snd :: p, .pair _ b, m, x => getP p b m.r x.2
  | .idx i :: p, .list a, .o m, x => getP p a m (x.getD i.toNat a.zero)
  | .idx i :: p, .list a, .s, x => getP p a .s (x.getD i.toNat a.zero)
  | .idx i :: p, .arr _ a, m, x => getP p a m.e (x.getD i.toNat a.zero)
  | .der :: p, .ptr a, .o m, x => getP p a m (x.getD a.zero)
  | _, _, _, _ => none

def castV {t : Ty} (t' : Ty) (x : t.den) : Option t'.den := if h : t = t' then some (h ▸ x) else none

def setP : List Step → (t : Ty) → Md → t.den → TV → Option (Md × t.den)
  | [], t, _, _, v => (castV t v.x).map fun y => (v.m, y)
  | .fst :: p, .pair a _, m, x, v => (setP p a m.l x.1 v).map fun r => (Md.mk r.1 m.r, (r.2, x.2))
  | .snd :: p, .pair _ b, m, x, v => (setP p b m.r x.2 v).map fun r => (Md.mk m.l r.1, (x.1, r.2))
  | .idx i :: p, .list a, .o m, x, v => (setP p a m (x.getD i.toNat a.zero) v).bind fun r => if r.1 = m then some (.o m, x.set i.toNat r.2) else none
  | .idx i :: p, .arr _ a, m, x, v => (setP p a m.e (x.getD i.toNat a.zero) v).bind fun r => if r.1 = m.e then some (m, x.set i.toNat r.2) else none
  | .der :: p, .ptr a, .o m, x, v => (setP p a m (x.getD a.zero) v).map fun r => (.o r.1, some r.2)
  | _, _, _, _, _ => none

/-- may it be shared from now on? -/
def frz : Ty → Md → Bool
  | .list a, m => match m with
    | .o m => frz a m
    | .h => false
    | _ => true
  | .ptr _, m => match m with
    | .o _ | .h => false
    | _ => true
  | .pair a b, m => frz a m.l && frz b m.r
  | .arr _ a, m => frz a m.e
  | _, _ => true

/-- the same, whatever the value is -/
def coeS : Ty → Md → Md → Bool
  | .pair a b, m, m' => if m = m' then true else match m' with
    | .s => frz (.pair a b) m
    | _ => coeS a m.l m'.l && coeS b m.r m'.r
  | .list a, m, m' => if m = m' then true else match m', m with
    | .s, _ => frz (.list a) m
    | .o m2, .o m1 => coeS a m1 m2
    | _, _ => false
  | t, m, m' => if m = m' then true else match m' with
    | .s => frz t m
    | _ => false

def coeOk : (t : Ty) → Md → Md → t.den → Bool
  | .pair a b, m, m', x => if m = m' then true else match m' with
    | .s => frz (.pair a b) m
    | _ => coeOk a m.l m'.l x.1 && coeOk b m.r m'.r x.2
  | .list a, m, m', x => if m = m' then true else match m', m with
    | .s, _ => frz (.list a) m
    | .o m2, .o m1 => coeS a m1 m2 || x.isEmpty
    | _, _ => false
  | .ptr a, m, m', x => if m = m' then true else match m', m, x with
    | .s, _, _ => frz (.ptr a) m
    | .o m2, .o m1, some y => coeOk a m1 m2 y
    | _, _, _ => false
  | t, m, m', _ => if m = m' then true else match m' with
    | .s => frz t m
    | _ => false

/-- nothing in it is shared -/
def noS : Ty → Md → Bool
  | .list a, m => match m with
    | .o m => noS a m
    | _ => false
  | .ptr a, m => match m with
    | .o m => noS a m
    | .s => true
    | _ => false
  | .pair a b, m => noS a m.l && noS b m.r
  | .arr _ a, m => noS a m.e
  | _, _ => true

/-- the kinds of a path's steps -/
inductive SP where
  | fst | snd | idx | der
  deriving DecidableEq

def pat : List Step → List SP
  | [] => []
  | .fst :: p => .fst :: pat p
  | .snd :: p => .snd :: pat p
  | .idx _ :: p => .idx :: pat p
  | .der :: p => .der :: pat p

/-- does a path run through, or to, a place of that kind? -/
def kills : List SP → List Step → Bool
  | [], _ => true
  | .fst :: q, .fst :: p => kills q p
  | .snd :: q, .snd :: p => kills q p
  | .idx :: q, .idx _ :: p => kills q p
  | .der :: q, .der :: p => kills q p
  | _, _ => false

/-- which references into a slot fall when it is written: none, all, those that run through a place of that kind -/
inductive Bk where
  | no | all | at (q : List SP)

/-- One item of a guard's chain: the slot of the guard and its count of writes, what is wanted, the guard's own value. -/
structure GI where
  slot : Nat
  ep : Nat
  want : Bool
  v : Bool

inductive Entry where
  | undef
  | val (t : Ty) (m : Md) (x : t.den)
  | addr (r ep : Nat) (p : List Step)
  | pref (r ep wc : Nat) (p : List Step)
  | ref (t : Ty) (x : t.den)
  | nq (neg e : Bool)
  | tup (es : List TV)
  | win (e : Entry) (sz l h : Nat)
  | cap (e : Entry) (r ep : Nat)
  | g (c : List GI) (e : Entry)

/-- A slot: how often its lists or itself were replaced, how often it was written at all, where its lists were replaced since it was replaced itself, and what it holds. -/
structure Sl where
  ep : Nat
  wc : Nat
  hs : List (List SP)
  e : Entry

abbrev Env := List Sl
def Env.get (e : Env) (s : Nat) : Sl := e.getD s ⟨0, 0, [], .undef⟩

def freshL : Nat → List (List SP) → List Step → Bool
  | 0, _, _ => true
  | _ + 1, [], _ => false
  | n + 1, q :: hs, p => !kills q p && freshL n hs p
/-- a reference from that time is good still -/
def fresh (x : Sl) (ep : Nat) (p : List Step) : Bool := Nat.ble ep x.ep && freshL (x.ep - ep) x.hs p

/-- one write: the slot, whether references into it fall, what it holds now -/
structure Up where
  s : Nat
  b : Bk
  e : Entry
def Up.on (u : Up) (x : Sl) : Sl :=
  match u.b with
  | .no => ⟨x.ep, x.wc + 1, x.hs, u.e⟩
  | .all => ⟨x.ep + 1, x.wc + 1, [], u.e⟩
  | .at q => ⟨x.ep + 1, x.wc + 1, q :: x.hs, u.e⟩
def Env.put (e : Env) (u : Up) : Env := e.set u.s (u.on (e.get u.s))

/-! ### What an operation does: reads slots, checks, calls -/
structure PK where
  io : Bool
  t : Ty
  m : Md
  m' : Md

structure Sig where
  ps : List PK
  rs : List (Ty × Md)

@[reducible] def denAll : List Ty → Type
  | [] => Unit
  | t :: ts => t.den × denAll ts

/-- the results, then what the pointers' contents are afterwards -/
def Sig.outs (g : Sig) : List (Ty × Md) := g.rs ++ (g.ps.filter (·.io)).map fun p => (p.t, p.m')

@[reducible] def Sig.S (g : Sig) : Type := denAll (g.ps.map (·.t))
@[reducible] def Sig.R (g : Sig) : Type := denAll (g.outs.map (·.1))

structure TE where
  sig : Sig
  F : sig.S → Option sig.R

def decAll : (ts : List Ty) → List TV → Option (denAll ts)
  | [], [] => some ()
  | t :: ts, v :: vs => (castV t v.x).bind fun x => (decAll ts vs).map fun r => (x, r)
  | _, _ => none

def encAll : (l : List (Ty × Md)) → denAll (l.map (·.1)) → List TV
  | [], _ => []
  | (t, m) :: l, r => ⟨t, m, r.1⟩ :: encAll l r.2

def zAll : (ts : List Ty) → denAll ts
  | [] => ()
  | t :: ts => (t.zero, zAll ts)

abbrev Tab := Nat → Option TE

/-- where a source of a laid contract comes from: an argument; the root that an argument points into; an index on the way there; what a closure holds -/
inductive Src where
  | arg (k : Nat) | root (k : Nat) | idx (k n : Nat) | cap (k n : Nat)
  deriving DecidableEq

/-- what an argument is, told by sources: a source; a pointer into what a source points to; a closure that holds sources -/
inductive Lay where
  | src (j : Nat)
  | pt (j : Nat) (p : List SP) (is : List Nat)
  | clo (f : Nat) (js : List Nat)

structure TEL where
  te : TE
  src : List Src
  lay : List Lay

/-- what no write of a part of a slot turns: when it was replaced itself, and whether it is a box and of what -/
def hardOf (x : Sl) : Nat × Option Ty := (x.ep - x.hs.length, match x.e with | .val (.ptr t) (.o _) _ => some t | _ => none)
/-- a write of a part of a box -/
def softUp (u : Up) (x : Sl) : Bool :=
  match u.b with
  | .all => false
  | _ => match u.e, x.e with
    | .val (.ptr t) (.o _) _, .val (.ptr t') (.o _) _ => decide (t = t') && Nat.ble x.hs.length x.ep
    | _, _ => false
def bitB (s : Nat) : Nat := 2 ^ (2 * s) ||| 2 ^ (2 * s + 1)
def bitU (u : Up) (x : Sl) : Nat := match softUp u x with | true => 2 ^ (2 * u.s + 1) | false => bitB u.s

inductive Rd (α : Type) where
  | ret (a : α)
  | get (s : Nat) (k : Sl → Rd α)
  | hrd (s : Nat) (k : Nat × Option Ty → Rd α)
  | put (u : Up) (k : Rd α)
  | mov (u : Up) (k : Rd α)
  | chk (b : Bool) (k : Rd α)
  | call (f : TE) (as : List TV) (k : List TV → Rd α)
  | fail

def Rd.bind {α β : Type} : Rd α → (α → Rd β) → Rd β
  | .ret a, f => f a
  | .get s k, f => .get s fun e => (k e).bind f
  | .hrd s k, f => .hrd s fun e => (k e).bind f
  | .put u k, f => .put u (k.bind f)
  | .mov u k, f => .mov u (k.bind f)
  | .chk b k, f => .chk b (k.bind f)
  | .call t as k, f => .call t as fun r => (k r).bind f
  | .fail, _ => .fail

instance : Monad Rd where
  pure := .ret
  bind := Rd.bind

/-- a call's native function; under a guard that does not hold nothing is called -/
def TE.run (f : TE) (g : Bool) (as : List TV) {ρ : Type} (K : List TV → Option ρ) : Option ρ :=
  match decAll (f.sig.ps.map (·.t)) as with
  | none => none
  | some s => Option.bind (bif g then f.F s else some (zAll (f.sig.outs.map (·.1)))) fun r => K (encAll f.sig.outs r)

def GI.ok (a : GI) : Bool := match a.want with | true => a.v | false => !a.v
def gOf : List GI → Bool
  | [] => true
  | [a] => a.ok
  | a :: g => a.ok && gOf g

/-- A guarded operation writes its own slot alone, and what it writes is valid under its guard. -/
def gPut (c : List GI) (d : Option Nat) (u : Up) : Option Up :=
  match c with
  | [] => some u
  | _ => match d with
    | some d => match u.s == d with | true => some ⟨u.s, u.b, .g c u.e⟩ | false => none
    | none => none

/-- what is checked need hold only under the guard -/
def okB (c : List GI) (b : Bool) : Bool := match c with | [] => b | _ => b || !gOf c

/-- the first if the guard holds, else the second -/
def mergeV : (t : Ty) → Bool → t.den → t.den → t.den
  | .ptr _, g, y, z => match y, z with
    | some y, some z => some (bif g then y else z)
    | y, z => bif g then y else z
  | _, g, y, z => bif g then y else z

/-- Under a guard a slot that the chain does not hang on may be forgotten, or get another value of its kind: that one if the guard holds. -/
def mPut (c : List GI) (d : Option Nat) (u : Up) (x : Sl) : Option Up :=
  match c with
  | [] => some u
  | _ => match d with
    | some d => match !(u.s == d) && c.all fun a => !(a.slot == u.s) with
      | true => match u.e, x.e with
        | .undef, _ => match u.b with | .all => some u | _ => none
        | .val t m y, .val t' m' z => if m = m' then (castV (t := t') t z).map fun z => ⟨u.s, u.b, .val t m (mergeV t (gOf c) y z)⟩ else none
        | _, _ => none
      | false => none
    | none => none

/-- A run: under the chain of guards c, for an operation that writes d. -/
def Rd.run {α ρ : Type} (c : List GI) (d : Option Nat) : Rd α → Env → (α → Env → Option ρ) → Option ρ
  | .ret a, env, K => K a env
  | .get s k, env, K => (k (env.get s)).run c d env K
  | .hrd s k, env, K => (k (hardOf (env.get s))).run c d env K
  | .put u k, env, K => match gPut c d u with
    | some u => k.run c d (env.put u) K
    | none => none
  | .mov u k, env, K => match mPut c d u (env.get u.s) with
    | some u => k.run c d (env.put u) K
    | none => none
  | .chk b k, env, K => bif okB c b then k.run c d env K else none
  | .call t as k, env, K => t.run (gOf c) as fun r => (k r).run c d env K
  | .fail, _, _ => none

def Rd.opt {α : Type} : Option α → Rd α
  | some a => .ret a
  | none => .fail
def Rd.guard (b : Bool) : Rd Unit := match b with | true => .ret () | false => .fail
def Rd.check (b : Bool) : Rd Unit := .chk b (.ret ())
def Rd.slot (s : Nat) : Rd Sl := .get s .ret
def Rd.hard (s : Nat) : Rd (Nat × Option Ty) := .hrd s .ret
def Rd.set (s : Nat) (b : Bk) (e : Entry) : Rd Unit := .put ⟨s, b, e⟩ (.ret ())
/-- a slot that is no operation's target turns: under no guard -/
def Rd.move (s : Nat) (b : Bk) (e : Entry) : Rd Unit := .mov ⟨s, b, e⟩ (.ret ())

/-! ### Operands -/
structure Ctx where
  ty : TypeId → Option Ty
  eqs : TypeId → Bool
  tab : Tab
  em : Ty → Md := fun _ => .s
  tabL : Nat → List TEL := fun _ => []
  shs : Nat → Bool := fun _ => false

def Md.idx : Md → Bool
  | .s | .o _ => true
  | _ => false

def constTV : Ty → Value → Option TV
  | .int k, .int k' n => if k = k' then some ⟨.int k, .s, n⟩ else none
  | .bool, .bool b => some ⟨.bool, .s, b⟩
  | .str, .string s => some ⟨.str, .s, s.data.toList.map fun b => (b.toNat : Int)⟩
  | .list a, .slice none 0 0 => some ⟨.list a, .o .s, []⟩
  | .ptr a, .pointer none => some ⟨.ptr a, .s, none⟩
  | .fn, .nilFunc => some ⟨.fn, .s, none⟩
  | _, _ => none

def chainIn (g c : List GI) : Bool := g.all fun a => c.any fun b => a.slot == b.slot && a.ep == b.ep && a.want == b.want

/-- what was written under guards is there where these hold -/
def useE (c : List GI) (x : Sl) : Rd Sl :=
  match x.e with
  | .g cc e => do Rd.guard (chainIn cc c); .ret ⟨x.ep, x.wc, x.hs, e⟩
  | _ => .ret x

/-- an operand's slot; a constant is one by the type that is expected -/
def opnd (c : List GI) (t : Option Ty) : Operand → Rd Sl
  | .tmp s => do let x ← .slot s; useE c x
  | .const v => .opt (((t.bind fun t => constTV t v)).map fun v => ⟨0, 0, [], .val v.t v.m v.x⟩)
  | .func f => .ret ⟨0, 0, [], .val .fn .s (some f)⟩
  | .global _ => .fail

def Ty.hasList : Ty → Bool
  | .list _ | .ptr _ => true
  | .pair a b => a.hasList || b.hasList
  | .arr _ a => a.hasList
  | _ => false

/-- one cell that holds an address -/
def Ty.single : Ty → Bool
  | .list _ | .ptr _ => true
  | _ => false

/-- the root of a reference, its count held against the reference's -/
def root (r ep : Nat) (p : List Step) : Rd (TV × Nat) := do
  match ← Rd.slot r with
  | ⟨e, wc, hs, .val t m x⟩ => do Rd.guard (fresh ⟨e, wc, hs, .undef⟩ ep p); pure (⟨t, m, x⟩, wc)
  | _ => .fail

def place (r ep : Nat) (p : List Step) : Rd TV := do
  let v ← root r ep p
  Rd.opt (getP p v.1.t v.1.m v.1.x)

/-- an address is good while no list on its way was replaced -/
def placeA (r ep : Nat) (p : List Step) : Rd TV := do
  let v ← root r ep p.dropLast
  Rd.opt (getP p v.1.t v.1.m v.1.x)

/-- an alias is good while nothing was written; that of one cell with an address, while no such cell was written -/
def aliasOk (v : TV) (wc wc' : Nat) : Bool := v.t.single || wc == wc'

/-- what an operand holds, to look at: nothing is moved -/
def peek0 : Entry → Rd TV
  | .val t m x => .ret ⟨t, m, x⟩
  | .pref r ep wc p => do
    let w ← root r ep p
    let v ← Rd.opt (getP p w.1.t w.1.m w.1.x)
    Rd.guard (aliasOk v wc w.2)
    pure v
  | _ => .fail

/-- a window of a list -/
def winTV (sz l h : Nat) (v : TV) : Rd TV :=
  match v with
  | ⟨.list a, m, xs⟩ => do
    Rd.guard (a.sz == sz && m.noHole)
    pure ⟨.list a, m, (xs.take h).drop l⟩
  | _ => .fail

def peek : Entry → Rd TV
  | .win (.pref r ep wc p) sz l h => do
    let v ← peek0 (.pref r ep wc p)
    winTV sz l h v
  | e => peek0 e

def plainV (e : Entry) : Rd TV := do
  let v ← peek e
  Rd.guard v.m.plain
  pure v

def slotOf : Operand → Option Nat
  | .tmp s => some s
  | _ => none

/-- all lists at the places of that kind are shared from now on -/
def frzM : List SP → Ty → Md → Option Md
  | [], t, m => match frz t m with | true => some .s | false => none
  | .fst :: p, .pair a _, m => (frzM p a m.l).map fun l => Md.mk l m.r
  | .snd :: p, .pair _ b, m => (frzM p b m.r).map fun r => Md.mk m.l r
  | .idx :: p, .list a, .o m => (frzM p a m).map .o
  | .der :: p, .ptr a, .o m => (frzM p a m).map .o
  | _, _, _ => none

def hasIdx : List Step → Bool
  | [] => false
  | .idx _ :: _ => true
  | _ :: p => hasIdx p

/-- what an operand holds, to be put elsewhere: what is owned is moved out of its place -/
def take0 (o : Operand) : Entry → Rd TV
  | .val t m x => match m.plain, slotOf o with
    | false, some s => do Rd.move s .all .undef; pure ⟨t, m, x⟩
    | _, _ => pure ⟨t, m, x⟩
  | .addr r ep [.der] => do
    let v ← root r ep []
    Rd.move r .all .undef
    pure v.1
  | .pref r ep wc p => do
    let w ← root r ep p
    let v ← Rd.opt (getP p w.1.t w.1.m w.1.x)
    Rd.guard (v.m.noHole && aliasOk v wc w.2)
    match p with
    | [] => do
      Rd.move r .all .undef
      pure v
    | _ => match hasIdx p with
      | false => do
        let n ← Rd.opt (setP p w.1.t w.1.m w.1.x ⟨v.t, .h, v.x⟩)
        Rd.move r (.at (pat p)) (.val w.1.t n.1 n.2)
        pure v
      | true => do
        let n ← Rd.opt (frzM (pat p) w.1.t w.1.m)
        let v2 ← Rd.opt (getP p w.1.t n w.1.x)
        Rd.guard v2.m.plain
        Rd.move r .all (.val w.1.t n w.1.x)
        pure v2
  | _ => .fail

def take (o : Operand) : Entry → Rd TV
  | .win (.pref r ep wc p) sz l h => do
    let v ← take0 o (.pref r ep wc p)
    winTV sz l h v
  | e => take0 o e

/-- the root and the path of the place that a pointer names -/
def boxPath (o : Operand) : Entry → Option (Nat × List Step)
  | .addr r _ p => some (r, p)
  | .val (.ptr _) (.o _) _ => (slotOf o).map fun s => (s, [.der])
  | .pref r _ _ p => some (r, p ++ [.der])
  | _ => none

/-- the place that a pointer names -/
def asPlace (o : Operand) (x : Sl) : Rd (Nat × Nat × List Step) :=
  match x.e with
  | .addr r ep p => .ret (r, ep, p)
  | .val (.ptr _) (.o _) v => match slotOf o with
    | some s => do
      let _ ← root s x.ep []
      Rd.check v.isSome
      .ret (s, x.ep, [.der])
    | none => .fail
  | .pref r ep _ p => do
    match ← place r ep p with
    | ⟨.ptr _, .o _, v⟩ => do
      Rd.check v.isSome
      let x ← Rd.slot r
      .ret (r, x.ep, p ++ [.der])
    | _ => .fail
  | _ => .fail

/-- what a call leaves behind a pointer turns all references but the pointer's own -/
def backB (p : List Step) : Bk := .at (pat p)
def putB (always hl : Bool) (p : List Step) : Bk :=
  match always with
  | true => backB p
  | false => match hl with
    | true => .at (pat p)
    | false => .no

/-- put a value into a place -/
def putPlace (r ep : Nat) (p : List Step) (v : TV) (always : Bool) : Rd Unit := do
  let w ← root r ep p.dropLast
  let n ← Rd.opt (setP p w.1.t w.1.m w.1.x v)
  Rd.move r (putB always v.t.hasList p) (.val w.1.t n.1 n.2)

def stepsOf : Nat → List Step
  | 0 => [.fst]
  | n + 1 => .snd :: stepsOf n

/-! ### Arithmetic -/
def iand (k : IntKind) (x y : Int) : Int := k.wrap (BitVec.ofInt k.bits x &&& BitVec.ofInt k.bits y).toNat
def ior (k : IntKind) (x y : Int) : Int := k.wrap (BitVec.ofInt k.bits x ||| BitVec.ofInt k.bits y).toNat
def ixor (k : IntKind) (x y : Int) : Int := k.wrap (BitVec.ofInt k.bits x ^^^ BitVec.ofInt k.bits y).toNat
def iandNot (k : IntKind) (x y : Int) : Int := k.wrap (BitVec.ofInt k.bits x &&& ~~~BitVec.ofInt k.bits y).toNat
def ishl (k : IntKind) (x y : Int) : Int := k.wrap (x * 2 ^ (min y.toNat k.bits))
def ishr (k : IntKind) (x y : Int) : Int := x.fdiv (2 ^ (min y.toNat k.bits))

def eqv : (t : Ty) → t.den → t.den → Bool
  | .int _, x, y => @decide (x = y) (inferInstanceAs (Decidable ((x : Int) = y)))
  | .bool, x, y => @BEq.beq Bool _ x y
  | .str, x, y => @BEq.beq (List Int) _ x y
  | .unit, _, _ => true
  | .pair a b, x, y => eqv a x.1 y.1 && eqv b x.2 y.2
  | .arr _ a, x, y => List.all (List.zip x y) fun z => eqv a z.1 z.2
  | _, _, _ => false

def Ty.eqOk : Ty → Bool
  | .int _ | .bool | .str | .unit => true
  | .pair a b => a.eqOk && b.eqOk
  | .arr _ a => a.eqOk
  | _ => false

/-- what must hold, and the result -/
def binV (op : BinOp) (a b : TV) : Option (Bool × TV) :=
  match op, a, b with
  | .add, ⟨.int k, _, x⟩, ⟨.int k', _, y⟩ => if k = k' then some (true, ⟨.int k, .s, k.wrap (x + y)⟩) else none
  | .sub, ⟨.int k, _, x⟩, ⟨.int k', _, y⟩ => if k = k' then some (true, ⟨.int k, .s, k.wrap (x - y)⟩) else none
  | .mul, ⟨.int k, _, x⟩, ⟨.int k', _, y⟩ => if k = k' then some (true, ⟨.int k, .s, k.wrap (x * y)⟩) else none
  | .quo, ⟨.int k, _, x⟩, ⟨.int k', _, y⟩ => if k = k' then some (!decide ((y : Int) = 0), ⟨.int k, .s, k.wrap (Int.tdiv x y)⟩) else none
  | .rem, ⟨.int k, _, x⟩, ⟨.int k', _, y⟩ => if k = k' then some (!decide ((y : Int) = 0), ⟨.int k, .s, Int.tmod x y⟩) else none
  | .and, ⟨.int k, _, x⟩, ⟨.int k', _, y⟩ => if k = k' then some (true, ⟨.int k, .s, iand k x y⟩) else none
  | .or, ⟨.int k, _, x⟩, ⟨.int k', _, y⟩ => if k = k' then some (true, ⟨.int k, .s, ior k x y⟩) else none
  | .xor, ⟨.int k, _, x⟩, ⟨.int k', _, y⟩ => if k = k' then some (true, ⟨.int k, .s, ixor k x y⟩) else none
  | .andNot, ⟨.int k, _, x⟩, ⟨.int k', _, y⟩ => if k = k' then some (true, ⟨.int k, .s, iandNot k x y⟩) else none
  | .shl, ⟨.int k, _, x⟩, ⟨.int _, _, y⟩ => some (decide ((0 : Int) ≤ y), ⟨.int k, .s, ishl k x y⟩)
  | .shr, ⟨.int k, _, x⟩, ⟨.int _, _, y⟩ => some (decide ((0 : Int) ≤ y), ⟨.int k, .s, ishr k x y⟩)
  | .lss, ⟨.int k, _, x⟩, ⟨.int k', _, y⟩ => if k = k' then some (true, ⟨.bool, .s, decide ((x : Int) < y)⟩) else none
  | .leq, ⟨.int k, _, x⟩, ⟨.int k', _, y⟩ => if k = k' then some (true, ⟨.bool, .s, decide ((x : Int) ≤ y)⟩) else none
  | .gtr, ⟨.int k, _, x⟩, ⟨.int k', _, y⟩ => if k = k' then some (true, ⟨.bool, .s, decide ((y : Int) < x)⟩) else none
  | .geq, ⟨.int k, _, x⟩, ⟨.int k', _, y⟩ => if k = k' then some (true, ⟨.bool, .s, decide ((y : Int) ≤ x)⟩) else none
  | .eql, ⟨t, _, x⟩, ⟨_, _, y⟩ => if t.eqOk then (castV t y).map fun y => (true, ⟨.bool, .s, eqv t x y⟩) else none
  | .neq, ⟨t, _, x⟩, ⟨_, _, y⟩ => if t.eqOk then (castV t y).map fun y => (true, ⟨.bool, .s, !(eqv t x y)⟩) else none
  | _, _, _ => none

def unV (op : UnOp) (a : TV) : Option TV :=
  match op, a with
  | .not, ⟨.bool, _, x⟩ => some ⟨.bool, .s, !x⟩
  | .neg, ⟨.int k, _, x⟩ => some ⟨.int k, .s, k.wrap (0 - x)⟩
  | .xor, ⟨.int k, _, x⟩ => some ⟨.int k, .s, ixor k (if k.signed then -1 else k.max) x⟩
  | _, _ => none

def convV (t : Ty) (a : TV) : Option TV :=
  match t, a with
  | .int k, ⟨.int _, _, x⟩ => some ⟨.int k, .s, k.wrap x⟩
  | .str, ⟨.str, _, x⟩ => some ⟨.str, .s, x⟩
  | _, _ => none

end Go.VL

namespace Go.VL

def coe (v : TV) (m : Md) : Rd TV := do
  Rd.check (coeOk v.t v.m m v.x)
  pure ⟨v.t, m, v.x⟩

/-- the parts of a literal, put into its zero value -/
def buildP (c : List GI) : List (Nat × Operand) → TV → Rd TV
  | [], v => pure v
  | (i, o) :: ps, v => do
    let w ← Rd.opt (getP (stepsOf i) v.t v.m v.x)
    let sl ← opnd c (some w.t) o
    let a ← take o sl.e
    let n ← Rd.opt (setP (stepsOf i) v.t v.m v.x a)
    buildP c ps ⟨v.t, n.1, n.2⟩

def buildL (c : List GI) (a : Ty) (m : Md) : Nat → List (Nat × Operand) → Rd (List a.den)
  | _, [] => pure []
  | n, (i, o) :: ps => do
    Rd.guard (i == n)
    let sl ← opnd c (some a) o
    let v ← take o sl.e
    let w ← coe v m
    let x ← Rd.opt (castV a w.x)
    let r ← buildL c a m (n + 1) ps
    pure (x :: r)

/-- from now on the operand's value is shared -/
def share (o : Operand) (sl : Sl) : Rd TV :=
  match sl.e with
  | .val t m x => match slotOf o with
    | some s => do
      let w ← root s sl.ep []
      Rd.guard (frz w.1.t w.1.m)
      Rd.move s .all (.val w.1.t .s w.1.x)
      pure ⟨w.1.t, .s, w.1.x⟩
    | none => do
      Rd.guard (frz t m)
      pure ⟨t, .s, x⟩
  | .pref r ep wc p => do
    let w ← root r ep p
    let v ← Rd.opt (getP p w.1.t w.1.m w.1.x)
    Rd.guard (frz v.t v.m && aliasOk v wc w.2)
    let n ← Rd.opt (setP p w.1.t w.1.m w.1.x ⟨v.t, .s, v.x⟩)
    Rd.move r .all (.val w.1.t n.1 n.2)
    pure ⟨v.t, .s, v.x⟩
  | _ => .fail

/-- first what a call is given to keep -/
def argsO (c : List GI) : List PK → List Operand → Rd (List TV)
  | [], [] => pure []
  | k :: ks, o :: os => match k.io || k.m.plain with
    | true => argsO c ks os
    | false => do
      let sl ← opnd c (some k.t) o
      let v ← take o sl.e
      let w ← coe v k.m
      let r ← argsO c ks os
      pure (w :: r)
  | _, _ => .fail

/-- Then what a call is shown: what is owned is lent, and the roots of what is lent are told;
  if the call may hand on what it was shown (fr), it is shared from now on. -/
def argsP (c : List GI) (fr : Bool) : List PK → List Operand → Rd (List TV × List Nat)
  | [], [] => pure ([], [])
  | k :: ks, o :: os => match !k.io && k.m.plain with
    | false => argsP c fr ks os
    | true => do
      let sl ← opnd c (some k.t) o
      let v ← peek sl.e
      match v.m.plain, fr with
      | false, true => do
        let v ← share o sl
        let r ← argsP c fr ks os
        pure (v :: r.1, r.2)
      | pl, _ => do
        Rd.guard (frz v.t v.m)
        let r ← argsP c fr ks os
        pure (⟨v.t, .s, v.x⟩ :: r.1, match pl, sl.e with
          | true, _ => r.2
          | false, .pref q _ _ _ => q :: r.2
          | false, .win (.pref q _ _ _) _ _ _ => q :: r.2
          | false, _ => (slotOf o).toList ++ r.2)
  | _, _ => .fail

/-- the places that are handed to a call by pointers: their contents, and where they are -/
def argsIO (c : List GI) : List PK → List Operand → Rd (List TV × List (Nat × Nat × List Step))
  | [], [] => pure ([], [])
  | k :: ks, o :: os => match k.io with
    | false => argsIO c ks os
    | true => do
      let sl ← opnd c (some (.ptr k.t)) o
      let pl ← asPlace o sl
      let v ← placeA pl.1 pl.2.1 pl.2.2
      let w ← coe v k.m
      let r ← argsIO c ks os
      pure (w :: r.1, pl :: r.2)
  | _, _ => .fail

/-- what is kept, what is shown, what lies behind pointers: one list -/
def merge : List PK → List TV → List TV → List TV → List TV
  | [], _, _, _ => []
  | k :: ks, us, vs, ws => match k.io, k.m.plain with
    | true, _ => (match ws with | w :: ws => w :: merge ks us vs ws | [] => [])
    | false, true => (match vs with | v :: vs => v :: merge ks us vs ws | [] => [])
    | false, false => (match us with | u :: us => u :: merge ks us vs ws | [] => [])

/-- what is put into a list's element gets its mark -/
def coeIdx (r ep : Nat) (p : List Step) (v : TV) : Rd TV :=
  match p.any fun s => match s with | .idx _ => true | _ => false with
  | true => do
    let w ← placeA r ep p
    coe v w.m
  | false => pure v

def backs : List (Nat × Nat × List Step) → List TV → Rd Unit
  | [], [] => pure ()
  | p :: ps, v :: vs => do
    putPlace p.1 p.2.1 p.2.2 v true
    backs ps vs
  | _, _ => .fail

def callWith (c : List GI) (te : TE) (os : List Operand) (d : Option Nat) : Rd Unit := do
  let us ← argsO c te.sig.ps os
  let a ← argsP c (!te.sig.outs.all fun o => noS o.1 o.2) te.sig.ps os
  let b ← argsIO c te.sig.ps os
  let rts := b.2.map (·.1)
  Rd.guard (decide rts.Nodup && rts.all fun r => !a.2.contains r)
  let r ← Rd.call te (merge te.sig.ps us a.1 b.1) .ret
  let n := te.sig.rs.length
  backs b.2 (r.drop n)
  match d, r.take n with
  | none, [] => pure ()
  | some d, [] => Rd.set d .all .undef
  | some d, [v] => Rd.set d .all (.val v.t v.m v.x)
  | some d, vs => Rd.set d .all (.tup vs)
  | _, _ => .fail

/-- the function of a closure, and the boxes that it holds -/
def cloF : Entry → Option Nat
  | .val .fn _ (some f) => some f
  | .cap e _ _ => cloF e
  | _ => none
def caps : Entry → List (Nat × Nat)
  | .cap e r ep => caps e ++ [(r, ep)]
  | _ => []

def idxOf : List Step → List Int
  | [] => []
  | .idx i :: p => i :: idxOf p
  | _ :: p => idxOf p

/-- an argument's entry; nothing is said of constants -/
def entO (c : List GI) : Operand → Rd Sl
  | .tmp s => do
    let x ← Rd.slot s
    useE c x
  | _ => .ret ⟨0, 0, [], .undef⟩

def entsO (c : List GI) : List Operand → Rd (List Sl)
  | [] => pure []
  | o :: os => do
    let e ← entO c o
    let r ← entsO c os
    pure (e :: r)

def derTail : List Step → Option (List Step)
  | [] => none
  | .fst :: _ => none
  | .snd :: _ => none
  | .idx _ :: _ => none
  | .der :: q => some q

/-- the place in a box that an argument points to -/
def boxAt (o : Operand) (e : Entry) : Option (Nat × List Step) := (boxPath o e).bind fun x => (derTail x.2).map fun q => (x.1, q)

def isPat (p : List SP) (q : List Step) : Bool := decide (pat q = p)

/-- is the argument of that kind? -/
def layFits : Lay → Operand → Entry → Bool
  | .src _, _, _ => true
  | .pt _ p _, o, e => match boxAt o e with | some (_, q) => isPat p q | none => false
  | .clo f js, _, e => match cloF e with | some g => Nat.beq f g && Nat.beq js.length (caps e).length | none => false

def laysFit : List Lay → List Operand → List Entry → Bool
  | [], [], [] => true
  | l :: ls, o :: os, e :: es => layFits l o e && laysFit ls os es
  | _, _, _ => false

def srcOp (os : List Operand) (es : List Entry) : Src → Option Operand
  | .arg k => os[k]?
  | .root k => match os[k]?, es[k]? with | some o, some e => (boxAt o e).map fun x => .tmp x.1 | _, _ => none
  | .idx k n => match os[k]?, es[k]? with | some o, some e => (boxAt o e).bind fun x => ((idxOf x.2)[n]?).map fun i => .const (.int .i64 i) | _, _ => none
  | .cap k n => match es[k]? with | some e => ((caps e)[n]?).map fun x => .tmp x.1 | none => none

def optAll {α β : Type} (f : α → Option β) : List α → Option (List β)
  | [] => some []
  | a :: l => match f a with | some b => (optAll f l).map fun r => b :: r | none => none

def isTmp : Option Operand → Nat → Bool
  | some (.tmp s), r => Nat.beq s r
  | _, _ => false

def capRoots : List (Nat × Nat) → Rd Unit
  | [] => pure ()
  | x :: l => do
    let _ ← root x.1 x.2 []
    capRoots l

/-- the argument is made of the sources as told, and what it points to stands there still -/
def layChk (_c : List GI) (src : List Src) (ps : List PK) (so : List Operand) (k : Nat) (o : Operand) : Lay → Sl → Rd Unit
  | .src j, _ => Rd.guard (match src[j]? with | some (.arg k') => Nat.beq k k' | _ => false)
  | .pt j _ is, sl => match boxAt o sl.e with
    | some (r, q) => do
      Rd.guard (isTmp so[j]? r && decide (is.map (src[·]?) = (List.range (idxOf q).length).map fun n => some (Src.idx k n)) && (match ps[j]? with | some p => p.io | none => false))
      let pl ← asPlace o sl
      let v ← root pl.1 pl.2.1 pl.2.2.dropLast
      match ps[j]? with
      | some pk => Rd.guard (decide (v.1.t = .ptr pk.t))
      | none => .fail
    | none => .fail
  | .clo _ js, sl => do
    Rd.guard (decide (js.map (fun j => so[j]?.bind slotOf) = (caps sl.e).map fun x => some x.1))
    capRoots (caps sl.e)

def laysChk (c : List GI) (src : List Src) (ps : List PK) (so : List Operand) : Nat → List Operand → List Lay → List Sl → Rd Unit
  | _, [], [], [] => pure ()
  | k, o :: os, l :: ls, e :: es => do
    layChk c src ps so k o l e
    laysChk c src ps so (k + 1) os ls es
  | _, _, _, _ => .fail

def callSem (C : Ctx) (c : List GI) (f : Nat) (os : List Operand) (d : Option Nat) : Rd Unit :=
  match C.tabL f with
  | [] => do
    let te ← Rd.opt (C.tab f)
    callWith c te os d
  | l => do
    let es ← entsO c os
    match l.find? fun t => laysFit t.lay os (es.map (·.e)) with
    | some t => do
      let so ← Rd.opt (optAll (srcOp os (es.map (·.e))) t.src)
      laysChk c t.src t.te.sig.ps so 0 os t.lay es
      callWith c t.te so d
    | none => do
      let te ← Rd.opt (C.tab f)
      callWith c te os d

/-- what a closure is made of -/
def capE (c : List GI) : List Operand → Entry → Rd Entry
  | [], e => pure e
  | o :: os, e => do
    let sl ← opnd c none o
    let pl ← asPlace o sl
    match pl.2.2 with
    | [.der] => do
      let _ ← root pl.1 pl.2.1 []
      capE c os (.cap e pl.1 pl.2.1)
    | _ => .fail

def bound (c : List GI) (dflt : Int) : Option Operand → Rd Int
  | none => pure dflt
  | some o => do
    let sl ← opnd c (some (.int .i64)) o
    match ← plainV sl.e with
    | ⟨.int .i64, _, x⟩ => pure x
    | _ => .fail

/-- a list compared with nil: is it 'not equal'? -/
def isNilC (op : BinOp) (t : Option Ty) (y : Operand) : Option Bool :=
  match op, t, y with
  | .eql, some (.list _), .const (.slice none 0 0) => some false
  | .neq, some (.list _), .const (.slice none 0 0) => some true
  | _, _, _ => none

/-- an owned list that a window may look into -/
def winSrc (sl : Sl) (x : Operand) : Option Entry :=
  match sl.e with
  | .val _ m _ => match m.plain, slotOf x with
    | false, some s => some (.pref s sl.ep sl.wc [])
    | _, _ => none
  | .pref r ep wc p => some (.pref r ep wc p)
  | _ => none

/-- is what stands in that slot to be shared when it is put elsewhere? -/
def shsO (C : Ctx) (o : Operand) : Bool := match slotOf o with | some s => C.shs s | none => false
def shsV (b : Bool) (v : TV) : Rd TV := match b with | true => coe v .s | false => pure v

/-- an operation: what it does to the slots -/
def opSem (C : Ctx) (c : List GI) (o : Oper) : Rd Unit :=
  match o.op, o.dst with
  | .move x, some d => do
    let hd ← (match slotOf x with | some s => Rd.hard s | none => pure (0, none))
    match hd, slotOf x with
    | (e0, some _), some s => Rd.set d .all (.pref s e0 0 [])
    | _, _ => do
    let sl ← opnd c (C.ty o.type) x
    match sl.e, slotOf x with
    | .val t m v, some s => match m.plain with
      | true => Rd.set d .all (.val t m v)
      | false => do
        let _ ← root s sl.ep []
        Rd.set d .all (.pref s sl.ep sl.wc [])
    | .val t m v, none => Rd.set d .all (.val t m v)
    | .addr r e p, _ => Rd.set d .all (.addr r e p)
    | .pref r e w p, _ => Rd.set d .all (.pref r e w p)
    | .ref t x, _ => Rd.set d .all (.ref t x)
    | .win e sz l h, _ => Rd.set d .all (.win e sz l h)
    | .cap e r ep, _ => Rd.set d .all (.cap e r ep)
    | .tup es, some s => do
      Rd.guard c.isEmpty
      Rd.move s .all .undef
      Rd.set d .all (.tup es)
    | _, _ => .fail
  | .assign x, some d => do
    let sl ← opnd c (C.ty o.type) x
    match sl.e with
    | .addr r e p => Rd.set d .all (.addr r e p)
    | .ref t x => Rd.set d .all (.ref t x)
    | .cap e r ep => Rd.set d .all (.cap e r ep)
    | e => do
      let v ← take x e
      let v ← shsV (shsO C x) v
      Rd.set d .all (.val v.t v.m v.x)
  | .pick cc a b, some d => do
    let sc ← opnd c (some .bool) cc
    match sc.e with
    | .val .bool m x => do
      Rd.guard m.plain
      let g (w : Bool) : List GI := match slotOf cc with | some s => ⟨s, sc.ep, w, x⟩ :: c | none => c
      let sa ← opnd (g true) (C.ty o.type) a
      let sb ← opnd (g false) (C.ty o.type) b
      let va ← plainV sa.e
      let vb ← plainV sb.e
      let y ← Rd.opt (castV va.t vb.x)
      Rd.set d .all (.val va.t .s (bif x then va.x else y))
    | _ => .fail
  | .alloc T, some d => do
    let t ← Rd.opt (C.ty T)
    Rd.set d .all (.val (.ptr t) (.o (zmd t)) (some t.zero))
  | .box T x, some d => do
    let t ← Rd.opt (C.ty T)
    let sl ← opnd c (some t) x
    let v ← take x sl.e
    let y ← Rd.opt (castV t v.x)
    Rd.set d .all (.val (.ptr t) (.o v.m) (some y))
  | .build T ps, some d => do
    let t ← Rd.opt (C.ty T)
    match t with
    | .pair _ _ => do
      let v ← buildP c ps.toList ⟨t, zmd t, t.zero⟩
      Rd.set d .all (.val v.t v.m v.x)
    | .arr n a => do
      Rd.guard (decide (ps.size ≤ n) && (zmd a).plain)
      let v ← buildL c a .s 0 ps.toList
      Rd.set d .all (.val (.arr n a) .s (v ++ List.replicate (n - ps.size) a.zero))
    | _ => .fail
  | .buildSlice T n ps, some d => do
    match C.ty T with
    | some (.list a) => do
      Rd.guard (ps.size == n && decide (n * a.sz ≤ 16777216))
      let v ← buildL c a (C.em a) 0 ps.toList
      Rd.set d .all (.val (.list a) (.o (C.em a)) v)
    | _ => .fail
  | .load T x, some d => do
    let t ← Rd.opt (C.ty T)
    let sl ← opnd c none x
    match sl.e with
    | .ref t0 x0 => do
      let y ← Rd.opt (castV (t := t0) t x0)
      Rd.set d .all (.val t .s y)
    | _ => do
      let pl ← asPlace x sl
      let w ← root pl.1 pl.2.1 pl.2.2.dropLast
      let v ← Rd.opt (getP pl.2.2 w.1.t w.1.m w.1.x)
      Rd.guard v.m.noHole
      match v.m.plain with
      | true => do
        let y ← Rd.opt (castV t v.x)
        Rd.set d .all (.val t .s y)
      | false => do
        Rd.guard (decide (v.t = t))
        let z ← Rd.slot pl.1
        Rd.set d .all (.pref pl.1 z.ep w.2 pl.2.2)
  | .store T x y, none => do
    let t ← Rd.opt (C.ty T)
    let sy ← opnd c (some t) y
    let v ← take y sy.e
    let v ← shsV (shsO C y) v
    let sl ← opnd c none x
    let pl ← asPlace x sl
    Rd.guard (decide (v.t = t))
    let v ← coeIdx pl.1 pl.2.1 pl.2.2 v
    putPlace pl.1 pl.2.1 pl.2.2 v false
  | .nilCheck x, some d => do
    let sl ← opnd c none x
    match sl.e with
    | .ref t0 x0 => Rd.set d .all (.ref t0 x0)
    | _ => do
      let pl ← asPlace x sl
      let _ ← root pl.1 pl.2.1 pl.2.2.dropLast
      Rd.set d .all (.addr pl.1 pl.2.1 pl.2.2)
  | .fieldAddr T x f, some d => do
    let t ← Rd.opt (C.ty T)
    let sl ← opnd c none x
    match sl.e with
    | .ref t0 x0 => do
      Rd.guard (decide (t0 = t))
      let v ← Rd.opt (getP (stepsOf f) t0 .s x0)
      Rd.guard v.m.plain
      Rd.set d .all (.ref v.t v.x)
    | _ => do
      let pl ← asPlace x sl
      let v ← placeA pl.1 pl.2.1 pl.2.2
      Rd.guard (decide (v.t = t))
      let _ ← Rd.opt (getP (stepsOf f) v.t v.m v.x)
      Rd.set d .all (.addr pl.1 pl.2.1 (pl.2.2 ++ stepsOf f))
  | .indexAddr T x i, some d => do
    let t ← Rd.opt (C.ty T)
    let si ← opnd c (some (.int .i64)) i
    match ← plainV si.e, t with
    | ⟨.int _, _, (j : Int)⟩, .list a => do
      let sl ← opnd c none x
      match ← peek sl.e with
      | ⟨.list b, m, xs⟩ => do
        Rd.guard (decide (a = b) && m.idx)
        Rd.check (decide ((0 : Int) ≤ j) && decide ((j : Int) < (xs.length : Int)))
        match m.plain with
        | true => Rd.set d .all (.ref b (xs.getD j.toNat b.zero))
        | false => match sl.e, slotOf x with
          | .val _ _ _, some s => do
            let _ ← root s sl.ep []
            Rd.set d .all (.addr s sl.ep [.idx j])
          | .pref r ep _ p, _ => Rd.set d .all (.addr r ep (p ++ [.idx j]))
          | _, _ => .fail
      | _ => .fail
    | ⟨.int _, _, (j : Int)⟩, .arr n a => do
      let sl ← opnd c none x
      match sl.e with
      | .ref t0 x0 => do
        let y ← Rd.opt (castV (t := t0) (.arr n a) x0)
        Rd.check (decide ((0 : Int) ≤ j) && decide ((j : Int) < (n : Int)))
        Rd.set d .all (.ref a ((y : List a.den).getD j.toNat a.zero))
      | _ => do
        let pl ← asPlace x sl
        let v ← placeA pl.1 pl.2.1 pl.2.2
        Rd.guard (decide (v.t = .arr n a) && v.m.noHole)
        Rd.check (decide ((0 : Int) ≤ j) && decide ((j : Int) < (n : Int)))
        Rd.set d .all (.addr pl.1 pl.2.1 (pl.2.2 ++ [.idx j]))
    | _, _ => .fail
  | .slice T x lo hi none, some d => do
    match C.ty T with
    | some (.list a) => do
      let sl ← opnd c (some (.list a)) x
      match winSrc sl x with
      | some (.pref r ep wc p) => do
        match ← peek0 (.pref r ep wc p) with
        | ⟨.list b, m, xs⟩ => do
          Rd.guard (m.noHole && decide (b = a))
          let h ← bound c xs.length hi
          let l ← bound c 0 lo
          Rd.check (decide ((0 : Int) ≤ l) && decide (l ≤ h) && decide (h ≤ (xs.length : Int)))
          Rd.set d .all (.win (.pref r ep wc p) b.sz l.toNat h.toNat)
        | _ => .fail
      | some _ => .fail
      | none => do
      match ← take x sl.e with
      | ⟨.list b, m, xs⟩ => do
        Rd.guard (m.noHole && decide (b = a))
        let h ← bound c xs.length hi
        let l ← bound c 0 lo
        Rd.check (decide ((0 : Int) ≤ l) && decide (l ≤ h) && decide (h ≤ (xs.length : Int)))
        Rd.set d .all (.val (.list b) m ((xs.take h.toNat).drop l.toNat))
      | _ => .fail
    | _ => .fail
  | .makeSlice T n k, some d => do
    match C.ty T with
    | some (.list a) => do
      let sn ← opnd c (some (.int .i64)) n
      let sk ← opnd c (some (.int .i64)) k
      match ← plainV sn.e, ← plainV sk.e with
      | ⟨.int .i64, _, (i : Int)⟩, ⟨.int .i64, _, (j : Int)⟩ => do
        Rd.guard (coeOk a (zmd a) (C.em a) a.zero)
        Rd.check (decide (i = j) && decide ((0 : Int) ≤ i) && decide (i ≤ 1073741824))
        Rd.set d .all (.val (.list a) (.o (C.em a)) (List.replicate i.toNat a.zero))
      | _, _ => .fail
    | _ => .fail
  | .extract x i, some d => do
    match slotOf x with
    | some s => do
      match (← Rd.slot s).e with
      | .tup es => do
        let v ← Rd.opt es[i]?
        match v.m.plain with
        | true => Rd.set d .all (.val v.t v.m v.x)
        | false => do
          Rd.guard v.m.noHole
          Rd.move s .all (.tup (es.set i ⟨v.t, .h, v.x⟩))
          Rd.set d .all (.val v.t v.m v.x)
      | _ => .fail
    | none => .fail
  | .binOp op T x y T', some d => do
    let sx ← opnd c (C.ty T) x
    match isNilC op (C.ty T) y with
    | some neg => do
      let v ← peek sx.e
      Rd.guard (decide (C.ty T = some v.t))
      match v with
      | ⟨.list _, m, xs⟩ => do
        Rd.guard m.idx
        Rd.set d .all (.nq neg xs.isEmpty)
      | _ => .fail
    | none => do
      let sy ← opnd c (C.ty (match op with | .shl | .shr => T' | _ => T)) y
      let a ← plainV sx.e
      let b ← plainV sy.e
      Rd.guard (match op with | .eql | .neq => decide (C.ty T = some a.t) && C.eqs T && decide (a.t.dep ≤ 10000) | _ => true)
      let r ← Rd.opt (binV op a b)
      Rd.check r.1
      Rd.set d .all (.val r.2.t r.2.m r.2.x)
  | .unOp op T x, some d => do
    let sx ← opnd c (C.ty T) x
    let a ← plainV sx.e
    let r ← Rd.opt (unV op a)
    Rd.set d .all (.val r.t r.m r.x)
  | .convert S T x, some d => do
    let t ← Rd.opt (C.ty T)
    let sx ← opnd c (C.ty S) x
    let a ← plainV sx.e
    Rd.guard (decide (C.ty S = some a.t))
    let r ← Rd.opt (convV t a)
    Rd.set d .all (.val r.t r.m r.x)
  | .call ⟨.value (.func f), as, _⟩, d => callSem C c f as.toList d
  | .call ⟨.value (.tmp s), as, _⟩, d => do
    let sl ← opnd c none (.tmp s)
    match sl.e with
    | .val .fn _ (some f) => callSem C c f as.toList d
    | .cap e r ep => match cloF e with
      | some f => do
        capRoots (caps (.cap e r ep))
        callSem C c f (as.toList ++ (caps (.cap e r ep)).map fun x => .tmp x.1) d
      | none => .fail
    | _ => .fail
  | .makeFunc (.func f) first capt, some d => do
    Rd.guard first.isEmpty
    let e ← capE c capt.toList (.val .fn .s (some f))
    Rd.set d .all e
  | .call ⟨.builtin .len, as, ts⟩, some d => do
    match as.toList, ts.toList with
    | [x], [T] => do
      let t ← Rd.opt (C.ty T)
      let sl ← opnd c (some t) x
      let v ← peek sl.e
      Rd.guard (decide (v.t = t))
      match v with
      | ⟨.list _, m, xs⟩ => do
        Rd.guard m.noHole
        Rd.set d .all (.val (.int .i64) .s (xs.length : Int))
      | ⟨.str, _, xs⟩ => Rd.set d .all (.val (.int .i64) .s (xs.length : Int))
      | _ => .fail
    | _, _ => .fail
  | .call ⟨.builtin .append, as, ts⟩, some d => do
    match as.toList, ts.toList with
    | [x, y], [T, T'] => match C.ty T, C.ty T' with
     | some (.list a), some (.list _) => do
      let sx ← opnd c (some (.list a)) x
      let u ← take x sx.e
      let u ← coe u (.o (C.em a))
      match u with
      | ⟨.list b, m0, xs⟩ => do
        let sy ← opnd c (some (.list a)) y
        let v ← (match (C.em a).plain with
          | true => peek sy.e
          | false => do
            let v ← take y sy.e
            coe v (.o (C.em a)))
        match v with
        | ⟨.list b', m', ys⟩ => do
          Rd.guard (decide (b = a) && match (C.em a).plain with | true => m'.e.plain | false => true)
          let zs ← Rd.opt (castV (.list b) (t := .list b') ys)
          Rd.check (decide (xs.length + (zs : List b.den).length < 1073741824))
          Rd.set d .all (.val (.list b) m0 (xs ++ zs))
        | _ => .fail
      | _ => .fail
     | _, _ => .fail
    | _, _ => .fail
  | .call ⟨.builtin .max, as, _⟩, some d => do
    match as.toList with
    | [x, y] => do
      let sx ← opnd c (C.ty o.type) x
      let sy ← opnd c (C.ty o.type) y
      match ← plainV sx.e, ← plainV sy.e with
      | ⟨.int k, _, a⟩, ⟨.int k', _, b⟩ => do
        Rd.guard (decide (k = k'))
        Rd.set d .all (.val (.int k) .s (bif decide ((a : Int) < b) then b else a))
      | _, _ => .fail
    | _ => .fail
  | .call ⟨.builtin .min, as, _⟩, some d => do
    match as.toList with
    | [x, y] => do
      let sx ← opnd c (C.ty o.type) x
      let sy ← opnd c (C.ty o.type) y
      match ← plainV sx.e, ← plainV sy.e with
      | ⟨.int k, _, a⟩, ⟨.int k', _, b⟩ => do
        Rd.guard (decide (k = k'))
        Rd.set d .all (.val (.int k) .s (bif decide ((b : Int) < a) then b else a))
      | _, _ => .fail
    | _ => .fail
  | _, _ => .fail

/-- the items of a chain must be what stands in their slots now -/
def current : List GI → Rd Unit
  | [] => pure ()
  | a :: g => do
    let x ← Rd.slot a.slot
    Rd.guard (x.ep == a.ep)
    current g

/-- the chain of guards of an operation of a region: of it hangs whether it is carried out -/
def chainOf (ops : Array Oper) (o : Oper) : Rd (List GI) :=
  match o.guard with
  | none => pure []
  | some (j, want) => match (ops[j]?).bind (·.dst) with
    | some s => do
      let x ← Rd.slot s
      match x.e with
      | .val .bool _ v => pure [⟨s, x.ep, want, v⟩]
      | .g g (.val .bool _ v) => do
        current g
        pure (⟨s, x.ep, want, v⟩ :: g)
      | _ => .fail
    | none => .fail

def runOp {ρ : Type} (C : Ctx) (ops : Array Oper) (o : Oper) (env : Env) (K : Env → Option ρ) : Option ρ :=
  (chainOf ops o).run [] none env fun c env => match c, o.dst with
    | [], _ => (opSem C [] o).run [] o.dst env fun _ env' => K env'
    | a :: c, some d => match (a :: c).all fun b => !(b.slot == d) with
      | true => (opSem C (a :: c) o).run (a :: c) o.dst env fun _ env' => (match (env'.get d).ep == (env.get d).ep + 1 && (env'.get d).wc == (env.get d).wc + 1 && (env'.get d).hs.isEmpty with | true => K env' | false => none)
      | false => none
    | _, _ => none

def runOps {ρ : Type} (C : Ctx) (ops : Array Oper) : List Oper → Env → (Env → Option ρ) → Option ρ
  | [], env, K => K env
  | o :: os, env, K => runOp C ops o env fun env' => runOps C ops os env' K

/-! ### Regions that may run in any order: what an operation reads and writes is traced -/
def Rd.runT {α ρ : Type} (c : List GI) (d : Option Nat) : Rd α → Env → Nat → Nat → (α → Env → Nat → Nat → Option ρ) → Option ρ
  | .ret a, env, R, W, K => K a env R W
  | .get s k, env, R, W, K => (k (env.get s)).runT c d env (R ||| bitB s) W K
  | .hrd s k, env, R, W, K => (k (hardOf (env.get s))).runT c d env (R ||| 2 ^ (2 * s)) W K
  | .put u k, env, R, W, K => match gPut c d u with
    | some u => k.runT c d (env.put u) R (W ||| bitB u.s) K
    | none => none
  | .mov u k, env, R, W, K => match mPut c d u (env.get u.s) with
    | some u => k.runT c d (env.put u) R (W ||| bitU u (env.get u.s)) K
    | none => none
  | .chk b k, env, R, W, K => bif okB c b then k.runT c d env R W K else none
  | .call t as k, env, R, W, K => t.run (gOf c) as fun r => (k r).runT c d env R W K
  | .fail, _, _, _, _ => none

def runOpT {ρ : Type} (C : Ctx) (ops : Array Oper) (o : Oper) (env : Env) (K : Env → Nat → Nat → Option ρ) : Option ρ :=
  (chainOf ops o).runT [] none env 0 0 fun c env R W => match c, o.dst with
    | [], _ => (opSem C [] o).runT [] o.dst env R W fun _ env' R W => K env' R W
    | a :: c, some d => match (a :: c).all fun b => !(b.slot == d) with
      | true => (opSem C (a :: c) o).runT (a :: c) o.dst env R (W ||| bitB d) fun _ env' R W => (match (env'.get d).ep == (env.get d).ep + 1 && (env'.get d).wc == (env.get d).wc + 1 && (env'.get d).hs.isEmpty with | true => K env' R W | false => none)
      | false => none
    | _, _ => none

/-- an operation behind which this one comes in any order, straight or by others -/
def behind (acc : List (Nat × Nat × Nat)) (o : Oper) : Nat :=
  o.after.toList.foldl (fun m e => match Region.binds .any e with | true => m ||| 2 ^ e.on ||| (acc.getD e.on (0, 0, 0)).1 | false => m) 0

def apart2 (R W R' W' : Nat) : Bool := W &&& (R' ||| W') == 0 && W' &&& (R ||| W) == 0

def indepAll (M R W : Nat) : List (Nat × Nat × Nat) → Nat → Bool
  | [], _ => true
  | x :: acc, j => (M.testBit j || apart2 R W x.2.1 x.2.2) && indepAll M R W acc (j + 1)

def runOpsT {ρ : Type} (C : Ctx) (ops : Array Oper) : List Oper → List (Nat × Nat × Nat) → Env → (Env → Option ρ) → Option ρ
  | [], _, env, K => K env
  | o :: os, acc, env, K => match o.after.toList.all fun e => !Region.binds .any e || decide (e.on < acc.length) with
    | true => runOpT C ops o env fun env' R W => match indepAll (behind acc o) R W acc 0 with
      | true => runOpsT C ops os (acc ++ [(behind acc o, R, W)]) env' K
      | false => none
    | false => none

/-! ### Shapes: which slots are kept, and of what kind -/
inductive Sh where
  | va (t : Ty) (m : Md)
  | bo (t : Ty) (m : Md)
  | ad (r : Nat) (p : List SP)
  | pr (r : Nat) (p : List SP)
  | rf (t : Ty)
  | fu (n : Nat)

@[reducible] def idxs : List SP → Type
  | [] => Unit
  | .idx :: p => Int × idxs p
  | .fst :: p => idxs p
  | .snd :: p => idxs p
  | .der :: p => idxs p

def decPath : (p : List SP) → List Step → Option (idxs p)
  | [], [] => some ()
  | .idx :: p, .idx i :: q => (decPath p q).map fun r => (i, r)
  | .fst :: p, .fst :: q => decPath p q
  | .snd :: p, .snd :: q => decPath p q
  | .der :: p, .der :: q => decPath p q
  | _, _ => none

def encPath : (p : List SP) → idxs p → List Step
  | [], _ => []
  | .idx :: p, i => .idx i.1 :: encPath p i.2
  | .fst :: p, i => .fst :: encPath p i
  | .snd :: p, i => .snd :: encPath p i
  | .der :: p, i => .der :: encPath p i

@[reducible] def Sh.den : Sh → Type
  | .va t _ => t.den
  | .bo t _ => t.den
  | .ad _ p => idxs p
  | .pr _ p => idxs p
  | .rf t => t.den
  | .fu _ => Unit

def Sh.enc : (h : Sh) → h.den → Entry
  | .va t m, x => .val t m x
  | .bo t m, x => .val (.ptr t) (.o m) (some x)
  | .ad r p, i => .addr r 0 (encPath p i)
  | .pr r p, i => .pref r 0 0 (encPath p i)
  | .rf t, x => .ref t x
  | .fu n, _ => .val .fn .s (some n)

def Sh.dec (env : Env) : (h : Sh) → Entry → Option h.den
  | .va t m, .val t' m' x => match coeOk t' m' m x with | true => castV t x | false => none
  | .bo t m, .val (.ptr t') (.o m') (some x) => match coeOk t' m' m x with | true => castV t x | false => none
  | .ad r p, .addr r' ep q => match r == r' && fresh (env.get r) ep q.dropLast with | true => decPath p q | false => none
  | .pr r p, .pref r' ep wc q => match r == r' && fresh (env.get r) ep q && wc == (env.get r).wc with | true => decPath p q | false => none
  | .rf t, .ref t' x => castV (t := t') t x
  | .fu n, .val .fn _ (some n') => match n == n' with | true => some () | false => none
  | _, _ => none

abbrev Shape := List (Nat × Sh)
@[reducible] def Shape.S : Shape → Type
  | [] => Unit
  | (_, h) :: l => h.den × Shape.S l

def Shape.decL (env : Env) : (l : Shape) → Option l.S
  | [] => some ()
  | (s, h) :: l => (h.dec env (env.get s).e).bind fun x => (Shape.decL env l).map fun r => (x, r)

def Shape.encOn : (l : Shape) → l.S → Env → Env
  | [], _, env => env
  | (s, h) :: l, x, env => Shape.encOn l x.2 (env.set s ⟨0, 0, [], h.enc x.1⟩)

def Shape.enc (n : Nat) (l : Shape) (x : l.S) : Env := l.encOn x (List.replicate n ⟨0, 0, [], .undef⟩)

/-- a reference's path is good in what is kept of its root -/
def refOk (env : Env) (r : Nat) (p : List Step) : Bool :=
  match (env.get r).e with
  | .val t m x => (getP p t m x).isSome
  | _ => false

def Shape.refs (env : Env) : Shape → Bool
  | [] => true
  | (s, .ad _ _) :: l => (match (env.get s).e with | .addr r _ p => refOk env r p | _ => false) && Shape.refs env l
  | (s, .pr _ _) :: l => (match (env.get s).e with | .pref r _ _ p => refOk env r p | _ => false) && Shape.refs env l
  | _ :: l => Shape.refs env l

def Shape.dec (n : Nat) (env : Env) (l : Shape) : Option l.S :=
  (l.decL env).bind fun x => match l.refs (l.enc n x) with | true => some x | false => none

/-! ### Code -/
inductive Ex where
  | normal | exit (id : Nat) | ret
  deriving DecidableEq

@[reducible] def Outs : List (Ex × Shape) → Type
  | [] => Empty
  | [x] => x.2.S
  | x :: y :: l => x.2.S ⊕ Outs (y :: l)

def Outs.dec (n : Nat) (env : Env) (ex : Ex) : (l : List (Ex × Shape)) → Option (Outs l)
  | [] => none
  | [x] => if x.1 = ex then x.2.dec n env else none
  | x :: y :: l => if x.1 = ex then (x.2.dec n env).map .inl else (Outs.dec n env ex (y :: l)).map .inr

def elimO {ρ : Type} (n : Nat) (K : Ex → Env → Option ρ) : (l : List (Ex × Shape)) → Outs l → Option ρ
  | [], e => e.elim
  | [x], s => K x.1 (x.2.enc n s)
  | x :: y :: l, o => Sum.elim (fun s => K x.1 (x.2.enc n s)) (fun o => elimO n K (y :: l) o) o

inductive AC where
  | rg | nx
  | sq (a b : AC)
  | cd (a b : AC)
  | bk (a : AC)
  | lp (sh : Shape) (os : List (Ex × Shape)) (f : sh.S → Option (sh.S ⊕ Outs os)) (a : AC)
  | sm (sh : Shape) (os : List (Ex × Shape)) (f : sh.S → Option (Outs os)) (a : AC)

def iterO {S O : Type} (f : S → Option (S ⊕ O)) : Nat → S → Option O
  | 0, _ => none
  | k + 1, s => (f s).bind (Sum.elim (iterO f k) some)

open Classical in
/-- both must be the same -/
noncomputable def agree {α : Type} (a b : Option α) : Option α := if a = b then a else none

theorem agree_eq {α : Type} {a b : Option α} {r : α} (h : agree a b = some r) : a = some r ∧ b = some r := by
  unfold agree at h
  split at h
  · rename_i e; exact ⟨h, e ▸ h⟩
  · cases h
@[simp] theorem agree_self {α : Type} (a : Option α) : agree a a = a := by simp [agree]

noncomputable def ev (C : Ctx) (k n : Nat) : AC → Code → {ρ : Type} → Env → (Ex → Env → Option ρ) → Option ρ
  | .rg, .region _ ops false, _, env, K => runOps C ops ops.toList env (K .normal)
  | .rg, .region _ ops true, _, env, K => runOpsT C ops ops.toList [] env (K .normal)
  | .nx, .skip, _, env, K => K .normal env
  | .nx, .ret, _, env, K => K .ret env
  | .nx, .exit id, _, env, K => K (.exit id) env
  | .sq a b, .seq x y, _, env, K => ev C k n a x env fun ex e => match ex with | .normal => ev C k n b y e K | ex => K ex e
  | .cd a b, .cond o x y, _, env, K => (opnd [] (some .bool) o).run [] none env fun sl env => match sl.e with
      | .nq false e => agree (ev C k n b y env K) (bif e then ev C k n a x env K else ev C k n b y env K)
      | .nq true e => agree (ev C k n a x env K) (bif e then ev C k n b y env K else ev C k n a x env K)
      | se => (plainV se).run [] none env fun v env => match v with
        | ⟨.bool, _, v⟩ => bif v then ev C k n a x env K else ev C k n b y env K
        | _ => none
  | .bk a, .block id x, _, env, K => ev C k n a x env fun ex e => match ex with | .exit id' => (if id' = id then K .normal e else K (.exit id') e) | ex => K ex e
  | .lp sh os f _, .loop _, _, env, K => (sh.dec n env).bind fun s => (iterO f k s).bind fun o => elimO n K os o
  | .sm sh os f _, _, _, env, K => (sh.dec n env).bind fun s => (f s).bind fun o => elimO n K os o
  | _, _, _, _, _ => none

def finL (n : Nat) (sh : Shape) (os : List (Ex × Shape)) (ex : Ex) (e : Env) : Option (sh.S ⊕ Outs os) :=
  match ex with
  | .normal => (sh.dec n e).map .inl
  | ex => (Outs.dec n e ex os).map .inr

/-- each loop's and each summary's native function is what its code does -/
def AC.ok (C : Ctx) (k n : Nat) : AC → Code → Prop
  | .sq a b, .seq x y => AC.ok C k n a x ∧ AC.ok C k n b y
  | .cd a b, .cond _ x y => AC.ok C k n a x ∧ AC.ok C k n b y
  | .bk a, .block _ x => AC.ok C k n a x
  | .lp sh os f a, .loop x => (∀ s, ev C k n a x (sh.enc n s) (finL n sh os) = f s) ∧ AC.ok C k n a x
  | .sm sh os f a, x => (∀ s, ev C k n a x (sh.enc n s) (fun ex e => Outs.dec n e ex os) = f s) ∧ AC.ok C k n a x
  | _, _ => True

/-! ### Functions -/
def paramsOn : (ps : List PK) → denAll (ps.map (·.t)) → Nat → Env → Env
  | [], _, _, env => env
  | p :: ps, x, i, env => paramsOn ps x.2 (i + 1) (env.set i ⟨0, 0, [], match p.io with | true => .val (.ptr p.t) (.o p.m) (some x.1) | false => .val p.t p.m x.1⟩)

/-- a source's slot, looked at -/
def srcE (n : Nat) (p : PK) (j : Nat) (env : Env) : Entry :=
  match p.io with
  | true => .addr (n + j) 0 [.der]
  | false => match p.m.plain with
    | true => (env.get (n + j)).e
    | false => .pref (n + j) 0 0 []

/-- a path from its kind and its indices -/
def pathOf : List SP → List Int → Option (List Step)
  | [], [] => some []
  | .idx :: p, i :: is => (pathOf p is).map fun q => .idx i :: q
  | .fst :: p, is => (pathOf p is).map fun q => .fst :: q
  | .snd :: p, is => (pathOf p is).map fun q => .snd :: q
  | .der :: p, is => (pathOf p is).map fun q => .der :: q
  | _, _ => none

def intAt (env : Env) (s : Nat) : Option Int :=
  match (env.get s).e with
  | .val (.int .i64) _ x => some x
  | _ => none

def capsE (n : Nat) : List Nat → Entry → Entry
  | [], e => e
  | j :: js, e => capsE n js (.cap e (n + j) 0)

/-- an argument's entry at the start: the sources lie from slot n on -/
def layE (n : Nat) (ps : List PK) (env : Env) : Lay → Option Entry
  | .src j => (ps[j]?).map fun p => srcE n p j env
  | .pt j p is => match ps[j]? with
    | some pk => match pk.io with
      | true => (optAll (fun i => intAt env (n + i)) is).bind fun xs => (pathOf p xs).bind fun q => match refOk env (n + j) (.der :: q) with
        | true => some (.addr (n + j) 0 (.der :: q))
        | false => none
      | false => none
    | none => none
  | .clo f js => match js.all fun j => match ps[j]? with | some pk => pk.io | none => false with
    | true => some (capsE n js (.val .fn .s (some f)))
    | false => none

def laysOn (n : Nat) (ps : List PK) : List Lay → Nat → Env → Option Env
  | [], _, env => some env
  | l :: ls, i, env => match layE n ps env l with
    | some e => laysOn n ps ls (i + 1) (env.put ⟨i, .all, e⟩)
    | none => none

/-- the results' values, one behind the other -/
def resOne (C : Ctx) : ResultVar → Rd TV
  | .tmp s => do
    let sl ← opnd [] none (.tmp s)
    take (.tmp s) sl.e
  | .cell s T => do
    let w ← Rd.slot s
    match w.e with
    | .val (.ptr t) (.o m) (some y) => do
      Rd.guard (decide (C.ty T = some t) && m.noHole)
      Rd.move s .all .undef
      pure ⟨t, m, y⟩
    | _ => .fail

def resR (C : Ctx) : List ResultVar → List (Ty × Md) → Rd (List TV)
  | [], [] => pure []
  | r :: rs, (_, m) :: l => do
    let v ← resOne C r
    let w ← coe v m
    let q ← resR C rs l
    pure (w :: q)
  | _, _ => .fail

/-- what the pointers' contents are at the end -/
def iosR : List PK → Nat → Rd (List TV)
  | [], _ => pure []
  | p :: ps, i => match p.io with
    | false => iosR ps (i + 1)
    | true => do
      let sl ← Rd.slot i
      match sl.e with
      | .val (.ptr t) (.o m) (some x) => do
        Rd.move i .all .undef
        let _ ← coe ⟨.ptr t, .o m, some x⟩ (.o p.m')
        let q ← iosR ps (i + 1)
        pure (⟨t, p.m', x⟩ :: q)
      | _ => .fail

def finR (C : Ctx) (g : Sig) (rv : List ResultVar) (ex : Ex) (e : Env) : Option g.R :=
  match ex with
  | .exit _ => none
  | _ => (resR C rv g.rs).run [] none e fun q e => (iosR g.ps 0).run [] none e fun w _ => decAll (g.outs.map (·.1)) (q ++ w)

def finRL (C : Ctx) (n : Nat) (g : Sig) (rv : List ResultVar) (ex : Ex) (e : Env) : Option g.R :=
  match ex with
  | .exit _ => none
  | _ => (resR C rv g.rs).run [] none e fun q e => (iosR g.ps n).run [] none e fun w _ => decAll (g.outs.map (·.1)) (q ++ w)

/-- a function by a laid contract: its sources lie behind its own slots -/
noncomputable def fnEvL (C : Ctx) (k : Nat) (g : Sig) (lay : List Lay) (fn : Func) (c : Code) (a : AC) (s : g.S) : Option g.R :=
  (laysOn fn.ntmps g.ps lay 0 (paramsOn g.ps s fn.ntmps (List.replicate (fn.ntmps + g.ps.length) ⟨0, 0, [], .undef⟩))).bind fun env =>
    ev C k (fn.ntmps + g.ps.length) a c env (finRL C fn.ntmps g fn.results.toList)

noncomputable def fnEv (C : Ctx) (k : Nat) (g : Sig) (fn : Func) (c : Code) (a : AC) (s : g.S) : Option g.R :=
  ev C k fn.ntmps a c (paramsOn g.ps s 0 (List.replicate fn.ntmps ⟨0, 0, [], .undef⟩)) (finR C g fn.results.toList)

end Go.VL

namespace Go.VL

/-! ### How native values lie in memory -/
structure Res where
  blk : Nat
  lo : Nat
  hi : Nat

def pack (t : Ty) (cs : List Value) : Value := if t.agg then .agg cs.toArray else cs.headD undef

def cellsAt (w : World) (ad : Addr) (cs : List Value) : Prop := ∀ j v, cs[j]? = some v → w.cell? (ad.add j) = some v

def spanOk (w : World) (b hi : Nat) : Prop := ∃ (c : Array Value) (e : TypeId), w.heap[b]? = some (Obj.cells c e (0, 0)) ∧ hi ≤ c.size

/-- elements that lie one behind the other in memory -/
def repL {α : Type} (R : α → List Value → List Res → Prop) (w : World) (sz b : Nat) : Nat → List α → List Res → Prop
  | _, [], fs => fs = []
  | o, x :: xs, fs => ∃ c f1 f2, cellsAt w ⟨b, o, none⟩ c ∧ R x c f1 ∧ repL R w sz b (o + sz) xs f2 ∧ fs = f1 ++ f2

/-- elements one behind the other in a value -/
def repA {α : Type} (R : α → List Value → List Res → Prop) : List α → List Value → List Res → Prop
  | [], cs, fs => cs = [] ∧ fs = []
  | x :: xs, cs, fs => ∃ c1 c2 f1 f2, R x c1 f1 ∧ repA R xs c2 f2 ∧ cs = c1 ++ c2 ∧ fs = f1 ++ f2

def bytesV (s : ByteArray) : List Int := s.data.toList.map fun b => (b.toNat : Int)

def rep (G : Nat → Prop) (w : World) : (t : Ty) → Md → t.den → List Value → List Res → Prop
  | .int k, _, x, cs, fp => cs = [.int k x] ∧ fp = []
  | .bool, _, x, cs, fp => cs = [.bool x] ∧ fp = []
  | .str, _, x, cs, fp => (∃ s, cs = [.string s] ∧ x = bytesV s) ∧ fp = []
  | .unit, _, _, cs, fp => cs = [] ∧ fp = []
  | .fn, _, x, cs, fp => (match x with | none => cs = [.nilFunc] | some f => cs = [.func (.func f) #[] #[]]) ∧ fp = []
  | .pair a b, m, x, cs, fp => ∃ c1 c2 f1 f2, rep G w a m.l x.1 c1 f1 ∧ rep G w b m.r x.2 c2 f2 ∧ cs = c1 ++ c2 ∧ fp = f1 ++ f2
  | .arr n a, m, x, cs, fp => x.length = n ∧ repA (rep G w a m.e) x cs fp
  | .list a, m, x, cs, fp =>
    match m with
    | .h => (∃ A l c, cs = [.slice A l c]) ∧ fp = []
    | .o m => (x = [] ∧ cs = [.slice none 0 0] ∧ fp = []) ∨
        ∃ b o cap fs, cs = [.slice (some ⟨b, o, none⟩) x.length cap] ∧ x.length ≤ cap ∧ fp = ⟨b, o, o + cap * a.sz⟩ :: fs ∧
          spanOk w b (o + cap * a.sz) ∧ repL (rep G w a m) w a.sz b o x fs
    | _ => (∃ A cap, cs = [.slice A x.length cap] ∧ x.length ≤ cap ∧ ∀ i (h : i < x.length), ∃ ad c, A = some ad ∧ G ad.block ∧
          cellsAt w (ad.add (i * a.sz)) c ∧ rep G w a .s x[i] c []) ∧ fp = []
  | .ptr a, m, x, cs, fp =>
    match m with
    | .h => (∃ p, cs = [.pointer p]) ∧ fp = []
    | .o m => ∃ y b o c f, x = some y ∧ cs = [.pointer (some ⟨b, o, none⟩)] ∧ fp = ⟨b, o, o + a.sz⟩ :: f ∧ spanOk w b (o + a.sz) ∧
          cellsAt w ⟨b, o, none⟩ c ∧ rep G w a m y c f
    | _ => x = none ∧ cs = [.pointer none] ∧ fp = []

/-! ### Small facts -/
theorem add_add (a : Addr) (m n : Nat) : (a.add m).add n = a.add (m + n) := by
  unfold Addr.add
  by_cases hm : m = 0 <;> by_cases hn : n = 0 <;> simp [hm, hn, Nat.add_assoc]

theorem add_mk (b o j : Nat) : (Addr.mk b o none).add j = ⟨b, o + j, none⟩ := by
  unfold Addr.add
  by_cases h : j = 0 <;> simp [h]

theorem add_block (a : Addr) (n : Nat) : (a.add n).block = a.block := by unfold Addr.add; split <;> rfl

theorem cellsAt_append {w : World} {ad : Addr} {c1 c2 : List Value} : cellsAt w ad (c1 ++ c2) ↔ cellsAt w ad c1 ∧ cellsAt w (ad.add c1.length) c2 := by
  unfold cellsAt
  constructor
  · intro h
    refine ⟨fun j v hj => h j v ?_, fun j v hj => ?_⟩
    · rw [List.getElem?_append_left]
      · exact hj
      · exact (List.getElem?_eq_some_iff.1 hj).1
    · rw [add_add]
      refine h (c1.length + j) v ?_
      rw [List.getElem?_append_right (by omega)]
      simpa using hj
  · rintro ⟨h1, h2⟩ j v hj
    by_cases hlt : j < c1.length
    · rw [List.getElem?_append_left hlt] at hj
      exact h1 j v hj
    · rw [List.getElem?_append_right (by omega)] at hj
      have := h2 _ v hj
      rw [add_add] at this
      rwa [show c1.length + (j - c1.length) = j by omega] at this

theorem cellsAt_nil {w : World} {ad : Addr} : cellsAt w ad [] := by intro j v h; simp at h

/-- w' is as w but for the cells X; no block has gone or changed its shape -/
structure Same (X : Nat → Nat → Prop) (w w' : World) : Prop where
  size : w.heap.size ≤ w'.heap.size
  shape : ∀ (b : Nat) (c : Array Value) (e : TypeId) (f : Nat × Nat), w.heap[b]? = some (Obj.cells c e f) → ∃ c' : Array Value, w'.heap[b]? = some (Obj.cells c' e f) ∧ c'.size = c.size
  cell : ∀ a : Addr, a.block < w.heap.size → (a.spot = none → ¬ X a.block a.off) → w'.cell? a = w.cell? a

theorem Same.span {X : Nat → Nat → Prop} {w w' : World} (h : Same X w w') {b hi : Nat} (s : spanOk w b hi) : spanOk w' b hi := by
  obtain ⟨c, e, hb, hc⟩ := s
  obtain ⟨c', hb', hs⟩ := h.shape _ _ _ _ hb
  exact ⟨c', e, hb', by omega⟩

theorem Same.cellSome {X : Nat → Nat → Prop} {w w' : World} (h : Same X w w') {a : Addr} {v : Value} (hv : w.cell? a = some v) (hx : ¬ X a.block a.off) : w'.cell? a = some v := by
  rw [h.cell a (World.block_lt_of_cell? w a hv) (fun _ => hx)]
  exact hv

theorem Same.cellsAt {X : Nat → Nat → Prop} {w w' : World} (h : Same X w w') {ad : Addr} {c : List Value} (hc : cellsAt w ad c)
    (hx : ∀ j, j < c.length → ¬ X ad.block (ad.add j).off) : cellsAt w' ad c := by
  intro j v hj
  have hlt := (List.getElem?_eq_some_iff.1 hj).1
  refine h.cellSome (hc j v hj) ?_
  rw [add_block]
  exact hx j hlt

theorem Same.refl (X : Nat → Nat → Prop) (w : World) : Same X w w := ⟨Nat.le_refl _, fun _ c _ _ h => ⟨c, h, rfl⟩, fun _ _ _ => rfl⟩

theorem Same.trans {X Y : Nat → Nat → Prop} {a b c : World} (h : Same X a b) (k : Same Y b c) : Same (fun p i => X p i ∨ Y p i) a c where
  size := Nat.le_trans h.size k.size
  shape := fun p cc e f hb => by
    obtain ⟨c1, h1, s1⟩ := h.shape _ _ _ _ hb
    obtain ⟨c2, h2, s2⟩ := k.shape _ _ _ _ h1
    exact ⟨c2, h2, s2.trans s1⟩
  cell := fun ad hlt hx => by
    rw [k.cell ad (Nat.lt_of_lt_of_le hlt h.size) (fun s hy => hx s (.inr hy)), h.cell ad hlt (fun s hy => hx s (.inl hy))]

theorem Same.mono {X Y : Nat → Nat → Prop} {w w' : World} (h : Same X w w') (hxy : ∀ b i, X b i → Y b i) : Same Y w w' :=
  ⟨h.size, h.shape, fun a ha hx => h.cell a ha fun s hy => hx s (hxy _ _ hy)⟩

/-! ### Values keep standing -/
theorem repL_imp {α : Type} {R R' : α → List Value → List Res → Prop} {w w' : World} {sz b : Nat} (X : Nat → Nat → Prop) (hs : Same X w w')
    (hb : ∀ i, ¬ X b i) : ∀ (xs : List α) (o : Nat) (fs : List Res), (∀ x ∈ xs, ∀ c f, (∀ r ∈ f, r ∈ fs) → R x c f → R' x c f) →
    repL R w sz b o xs fs → repL R' w' sz b o xs fs
  | [], _, _, _, h => h
  | x :: xs, o, fs, hr, h => by
    obtain ⟨c, f1, f2, hc, hx, hl, rfl⟩ := h
    refine ⟨c, f1, f2, hs.cellsAt hc (fun j _ => hb _), hr x (by simp) c f1 (fun r hr' => by simp [hr']) hx, ?_, rfl⟩
    exact repL_imp X hs hb xs _ f2 (fun y hy c f hf => hr y (by simp [hy]) c f (fun r hr' => by simp [hf r hr'])) hl

theorem repA_imp {α : Type} {R R' : α → List Value → List Res → Prop} : ∀ (xs : List α) (cs : List Value) (fs : List Res),
    (∀ x ∈ xs, ∀ c f, (∀ r ∈ f, r ∈ fs) → R x c f → R' x c f) → repA R xs cs fs → repA R' xs cs fs
  | [], _, _, _, h => h
  | x :: xs, cs, fs, hr, h => by
    obtain ⟨c1, c2, f1, f2, hx, hl, rfl, rfl⟩ := h
    exact ⟨c1, c2, f1, f2, hr x (by simp) c1 f1 (fun r hr' => by simp [hr']) hx, repA_imp xs c2 f2 (fun y hy c f hf => hr y (by simp [hy]) c f (fun r hr' => by simp [hf r hr'])) hl, rfl, rfl⟩

theorem rep_frame {G G' : Nat → Prop} {w w' : World} {X : Nat → Nat → Prop} (hs : Same X w w') (hG : ∀ b, G b → G' b) (hGX : ∀ b i, X b i → ¬ G b) :
    ∀ (t : Ty) (m : Md) (x : t.den) (cs : List Value) (fp : List Res), (∀ r ∈ fp, ∀ i, ¬ X r.blk i) → rep G w t m x cs fp → rep G' w' t m x cs fp := by
  intro t
  induction t with
  | int k => intro m x cs fp _ h; exact h
  | bool => intro m x cs fp _ h; exact h
  | str => intro m x cs fp _ h; exact h
  | unit => intro m x cs fp _ h; exact h
  | fn => intro m x cs fp _ h; exact h
  | pair a b iha ihb =>
    intro m x cs fp hf h
    obtain ⟨c1, c2, f1, f2, h1, h2, rfl, rfl⟩ := h
    exact ⟨c1, c2, f1, f2, iha _ _ _ _ (fun r hr => hf r (by simp [hr])) h1, ihb _ _ _ _ (fun r hr => hf r (by simp [hr])) h2, rfl, rfl⟩
  | arr n a ih =>
    intro m x cs fp hf h
    exact ⟨h.1, repA_imp x cs fp (fun y _ c f hfs hr => ih _ _ _ _ (fun r hr' => hf r (hfs r hr')) hr) h.2⟩
  | list a ih =>
    intro m x cs fp hf h
    have shared : ∀ (A : Option Addr) (cap : Nat), (∀ i (h : i < x.length), ∃ (ad : Addr) (c : List Value), A = some ad ∧ G ad.block ∧ cellsAt w (ad.add (i * a.sz)) c ∧ rep G w a .s x[i] c []) →
        ∀ i (h : i < x.length), ∃ (ad : Addr) (c : List Value), A = some ad ∧ G' ad.block ∧ cellsAt w' (ad.add (i * a.sz)) c ∧ rep G' w' a .s x[i] c [] := by
      intro A cap hh i hi
      obtain ⟨ad, c, ha, hg, hc, hr⟩ := hh i hi
      refine ⟨ad, c, ha, hG _ hg, hs.cellsAt hc (fun j _ hx => ?_), ih _ _ _ _ (by simp) hr⟩
      rw [add_block] at hx
      exact hGX _ _ hx hg
    cases m with
    | h => exact h
    | o m =>
      rcases h with h | ⟨b, o, cap, fs, rfl, hl, rfl, hsp, hr⟩
      · exact .inl h
      · refine .inr ⟨b, o, cap, fs, rfl, hl, rfl, hs.span hsp, ?_⟩
        exact repL_imp X hs (fun i => hf ⟨b, o, o + cap * a.sz⟩ (by simp) i) x o fs (fun y _ c f hfs hr => ih _ _ _ _ (fun r hr' => hf r (by simp [hfs r hr'])) hr) hr
    | s => obtain ⟨⟨A, cap, rfl, hlc, hh⟩, rfl⟩ := h; exact ⟨⟨A, cap, rfl, hlc, shared A cap hh⟩, rfl⟩
    | p _ _ => obtain ⟨⟨A, cap, rfl, hlc, hh⟩, rfl⟩ := h; exact ⟨⟨A, cap, rfl, hlc, shared A cap hh⟩, rfl⟩
  | ptr a ih =>
    intro m x cs fp hf h
    cases m with
    | o m =>
      obtain ⟨y, b, o, c, f, rfl, rfl, rfl, hsp, hc, hr⟩ := h
      exact ⟨y, b, o, c, f, rfl, rfl, rfl, hs.span hsp, hs.cellsAt hc (fun j _ => hf ⟨b, o, o + a.sz⟩ (by simp) _), ih _ _ _ _ (fun r hr' => hf r (by simp [hr'])) hr⟩
    | h => exact h
    | s => exact h
    | p _ _ => exact h

theorem rep_len {G : Nat → Prop} {w : World} : ∀ (t : Ty) (m : Md) (x : t.den) (cs : List Value) (fp : List Res), rep G w t m x cs fp → cs.length = t.sz := by
  intro t
  induction t with
  | int k => intro m x cs fp h; obtain ⟨rfl, _⟩ := h; rfl
  | bool => intro m x cs fp h; obtain ⟨rfl, _⟩ := h; rfl
  | str => intro m x cs fp h; obtain ⟨⟨s, rfl, _⟩, _⟩ := h; rfl
  | unit => intro m x cs fp h; obtain ⟨rfl, _⟩ := h; rfl
  | fn => intro m x cs fp h; obtain ⟨h, _⟩ := h; cases x <;> simp only at h <;> subst h <;> rfl
  | pair a b iha ihb =>
    intro m x cs fp h
    obtain ⟨c1, c2, f1, f2, h1, h2, rfl, rfl⟩ := h
    simp [Ty.sz, iha _ _ _ _ h1, ihb _ _ _ _ h2]
  | arr n a ih =>
    intro m x cs fp h
    obtain ⟨hn, h⟩ := h
    have : ∀ (xs : List a.den) cs fp, repA (rep G w a m.e) xs cs fp → cs.length = xs.length * a.sz := by
      intro xs
      induction xs with
      | nil => intro cs fp h; obtain ⟨rfl, _⟩ := h; simp
      | cons y ys ih2 =>
        intro cs fp h
        obtain ⟨c1, c2, f1, f2, h1, h2, rfl, rfl⟩ := h
        simp [ih _ _ _ _ h1, ih2 _ _ h2, Nat.add_mul, Nat.add_comm]
    rw [this x cs fp h, hn]; rfl
  | list a ih =>
    intro m x cs fp h
    cases m with
    | h => obtain ⟨⟨A, l, c, rfl⟩, _⟩ := h; rfl
    | o m => rcases h with ⟨_, rfl, _⟩ | ⟨b, o, cap, fs, rfl, _⟩ <;> rfl
    | s => obtain ⟨⟨A, cap, rfl, _⟩, _⟩ := h; rfl
    | p _ _ => obtain ⟨⟨A, cap, rfl, _⟩, _⟩ := h; rfl
  | ptr a ih =>
    intro m x cs fp h
    cases m with
    | h => obtain ⟨⟨p, rfl⟩, _⟩ := h; rfl
    | o m => obtain ⟨y, b, o, c, f, _, rfl, _⟩ := h; rfl
    | s => obtain ⟨_, rfl, _⟩ := h; rfl
    | p _ _ => obtain ⟨_, rfl, _⟩ := h; rfl

theorem rep_one {G : Nat → Prop} {w : World} : ∀ (t : Ty) (m : Md) (x : t.den) (cs : List Value) (fp : List Res), rep G w t m x cs fp →
    ∀ v ∈ cs, v.oneCell' = true := by
  intro t
  induction t with
  | int k => intro m x cs fp h; obtain ⟨rfl, _⟩ := h; simp [Value.oneCell']
  | bool => intro m x cs fp h; obtain ⟨rfl, _⟩ := h; simp [Value.oneCell']
  | str => intro m x cs fp h; obtain ⟨⟨s, rfl, _⟩, _⟩ := h; simp [Value.oneCell']
  | unit => intro m x cs fp h; obtain ⟨rfl, _⟩ := h; simp
  | fn => intro m x cs fp h; obtain ⟨h, _⟩ := h; cases x <;> simp only at h <;> subst h <;> simp [Value.oneCell']
  | pair a b iha ihb =>
    intro m x cs fp h v hv
    obtain ⟨c1, c2, f1, f2, h1, h2, rfl, rfl⟩ := h
    rcases List.mem_append.1 hv with hv | hv
    · exact iha _ _ _ _ h1 v hv
    · exact ihb _ _ _ _ h2 v hv
  | arr n a ih =>
    intro m x cs fp h
    obtain ⟨_, h⟩ := h
    have : ∀ (xs : List a.den) cs fp, repA (rep G w a m.e) xs cs fp → ∀ v ∈ cs, v.oneCell' = true := by
      intro xs
      induction xs with
      | nil => intro cs fp h; obtain ⟨rfl, _⟩ := h; simp
      | cons y ys ih2 =>
        intro cs fp h v hv
        obtain ⟨c1, c2, f1, f2, h1, h2, rfl, rfl⟩ := h
        rcases List.mem_append.1 hv with hv | hv
        · exact ih _ _ _ _ h1 v hv
        · exact ih2 _ _ h2 v hv
    exact this x cs fp h
  | list a ih =>
    intro m x cs fp h
    cases m with
    | h => obtain ⟨⟨A, l, c, rfl⟩, _⟩ := h; simp [Value.oneCell']
    | o m => rcases h with ⟨_, rfl, _⟩ | ⟨b, o, cap, fs, rfl, _⟩ <;> simp [Value.oneCell']
    | s => obtain ⟨⟨A, cap, rfl, _⟩, _⟩ := h; simp [Value.oneCell']
    | p _ _ => obtain ⟨⟨A, cap, rfl, _⟩, _⟩ := h; simp [Value.oneCell']
  | ptr a ih =>
    intro m x cs fp h
    cases m with
    | h => obtain ⟨⟨p, rfl⟩, _⟩ := h; simp [Value.oneCell']
    | o m => obtain ⟨y, b, o, c, f, _, rfl, _⟩ := h; simp [Value.oneCell']
    | s => obtain ⟨_, rfl, _⟩ := h; simp [Value.oneCell']
    | p _ _ => obtain ⟨_, rfl, _⟩ := h; simp [Value.oneCell']

/-- what is shared all through owns nothing -/
theorem rep_s_fp {G : Nat → Prop} {w : World} : ∀ (t : Ty) (x : t.den) (cs : List Value) (fp : List Res), rep G w t .s x cs fp → fp = [] := by
  intro t
  induction t with
  | int k => intro x cs fp h; exact h.2
  | bool => intro x cs fp h; exact h.2
  | str => intro x cs fp h; exact h.2
  | unit => intro x cs fp h; exact h.2
  | fn => intro x cs fp h; exact h.2
  | pair a b iha ihb =>
    intro x cs fp h
    obtain ⟨c1, c2, f1, f2, h1, h2, rfl, rfl⟩ := h
    rw [iha _ _ _ h1, ihb _ _ _ h2]; rfl
  | arr n a ih =>
    intro x cs fp h
    obtain ⟨_, h⟩ := h
    have : ∀ (xs : List a.den) cs fp, repA (rep G w a .s) xs cs fp → fp = [] := by
      intro xs
      induction xs with
      | nil => intro cs fp h; exact h.2
      | cons y ys ih2 =>
        intro cs fp h
        obtain ⟨c1, c2, f1, f2, h1, h2, rfl, rfl⟩ := h
        rw [ih _ _ _ h1, ih2 _ _ h2]; rfl
    exact this x cs fp h
  | list a ih => intro x cs fp h; exact h.2
  | ptr a ih => intro x cs fp h; exact h.2.2

end Go.VL

namespace Go.VL

@[simp] theorem Md.mk_l (a b : Md) : (Md.mk a b).l = a := by cases a <;> cases b <;> rfl
@[simp] theorem Md.mk_r (a b : Md) : (Md.mk a b).r = b := by cases a <;> cases b <;> rfl

/-! ### Sharing -/
def blks (fp : List Res) (b : Nat) : Prop := ∃ r ∈ fp, r.blk = b

theorem frz_s : ∀ (t : Ty), frz t .s = true := by
  intro t
  induction t <;> simp_all [frz, Md.l, Md.r, Md.e]

theorem rep_share {G G' : Nat → Prop} {w : World} (hG : ∀ b, G b → G' b) : ∀ (t : Ty) (m : Md) (x : t.den) (cs : List Value) (fp : List Res), frz t m = true →
    (∀ r ∈ fp, G' r.blk) → rep G w t m x cs fp → rep G' w t .s x cs [] := by
  intro t
  induction t with
  | int k => intro m x cs fp _ _ h; exact ⟨h.1, rfl⟩
  | bool => intro m x cs fp _ _ h; exact ⟨h.1, rfl⟩
  | str => intro m x cs fp _ _ h; exact ⟨h.1, rfl⟩
  | unit => intro m x cs fp _ _ h; exact ⟨h.1, rfl⟩
  | fn => intro m x cs fp _ _ h; exact ⟨h.1, rfl⟩
  | pair a b iha ihb =>
    intro m x cs fp hz hf h
    simp only [frz, Bool.and_eq_true] at hz
    obtain ⟨c1, c2, f1, f2, h1, h2, rfl, rfl⟩ := h
    exact ⟨c1, c2, [], [], iha _ _ _ _ hz.1 (fun r hr => hf r (by simp [hr])) h1, ihb _ _ _ _ hz.2 (fun r hr => hf r (by simp [hr])) h2, rfl, rfl⟩
  | arr n a ih =>
    intro m x cs fp hz hf h
    refine ⟨h.1, ?_⟩
    have : ∀ (xs : List a.den) cs fp, (∀ r ∈ fp, G' r.blk) → repA (rep G w a m.e) xs cs fp → repA (rep G' w a .s) xs cs [] := by
      intro xs
      induction xs with
      | nil => intro cs fp _ h; exact ⟨h.1, rfl⟩
      | cons y ys ih2 =>
        intro cs fp hf h
        obtain ⟨c1, c2, f1, f2, h1, h2, rfl, rfl⟩ := h
        exact ⟨c1, c2, [], [], ih _ _ _ _ hz (fun r hr => hf r (by simp [hr])) h1, ih2 _ _ (fun r hr => hf r (by simp [hr])) h2, rfl, rfl⟩
    exact this x cs fp hf h.2
  | list a ih =>
    intro m x cs fp hz hf h
    have sh : (∃ A cap, cs = [.slice A x.length cap] ∧ x.length ≤ cap ∧ ∀ i (h : i < x.length), ∃ ad c, A = some ad ∧ G ad.block ∧ cellsAt w (ad.add (i * a.sz)) c ∧ rep G w a .s x[i] c []) →
        rep G' w (.list a) .s x cs [] := by
      rintro ⟨A, cap, rfl, hlc, hh⟩
      refine ⟨⟨A, cap, rfl, hlc, fun i hi => ?_⟩, rfl⟩
      obtain ⟨ad, c, ha, hg, hc, hr⟩ := hh i hi
      exact ⟨ad, c, ha, hG _ hg, hc, ih _ _ _ _ (frz_s a) (by simp) hr⟩
    cases m with
    | h => simp [frz] at hz
    | s => exact sh h.1
    | p _ _ => exact sh h.1
    | o m =>
      simp only [frz] at hz
      rcases h with ⟨rfl, rfl, rfl⟩ | ⟨b, o, cap, fs, rfl, hl, rfl, hsp, hr⟩
      · exact ⟨⟨none, 0, rfl, Nat.le_refl _, fun i hi => by simp at hi⟩, rfl⟩
      · refine ⟨⟨some ⟨b, o, none⟩, cap, rfl, hl, ?_⟩, rfl⟩
        have hb : G' b := hf ⟨b, o, o + cap * a.sz⟩ (by simp)
        have hf' : ∀ r ∈ fs, G' r.blk := fun r hr => hf r (by simp [hr])
        clear hf hl hsp
        have key : ∀ (xs : List a.den) (o : Nat) (fs : List Res), (∀ r ∈ fs, G' r.blk) → repL (rep G w a m) w a.sz b o xs fs →
            ∀ i (h : i < xs.length), ∃ c, cellsAt w ⟨b, o + i * a.sz, none⟩ c ∧ rep G' w a .s xs[i] c [] := by
          intro xs
          induction xs with
          | nil => intro o fs _ _ i hi; simp at hi
          | cons y ys ih2 =>
            intro o fs hfs h i hi
            obtain ⟨c, f1, f2, hc, hy, hl, rfl⟩ := h
            cases i with
            | zero => exact ⟨c, by simpa using hc, ih _ _ _ _ hz (fun r hr => hfs r (by simp [hr])) hy⟩
            | succ i =>
              obtain ⟨c', hc', hr'⟩ := ih2 (o + a.sz) f2 (fun r hr => hfs r (by simp [hr])) hl i (by simpa using hi)
              refine ⟨c', ?_, by simpa using hr'⟩
              rwa [show o + (i + 1) * a.sz = o + a.sz + i * a.sz by rw [Nat.add_mul]; omega]
        intro i hi
        obtain ⟨c, hc, hr⟩ := key x o fs hf' hr i hi
        exact ⟨⟨b, o, none⟩, c, rfl, hb, by rw [add_mk]; exact hc, hr⟩
  | ptr a ih =>
    intro m x cs fp hz hf h
    cases m with
    | h => simp [frz] at hz
    | o m => simp [frz] at hz
    | s => exact ⟨h.1, h.2.1, rfl⟩
    | p _ _ => exact ⟨h.1, h.2.1, rfl⟩

/-- what shares nothing stands without what was shared -/
theorem rep_noS {G G' : Nat → Prop} {w : World} : ∀ (t : Ty) (m : Md) (x : t.den) (cs : List Value) (fp : List Res), noS t m = true →
    rep G w t m x cs fp → rep G' w t m x cs fp := by
  intro t
  induction t with
  | int k => intro m x cs fp _ h; exact h
  | bool => intro m x cs fp _ h; exact h
  | str => intro m x cs fp _ h; exact h
  | unit => intro m x cs fp _ h; exact h
  | fn => intro m x cs fp _ h; exact h
  | pair a b iha ihb =>
    intro m x cs fp hz h
    simp only [noS, Bool.and_eq_true] at hz
    obtain ⟨c1, c2, f1, f2, h1, h2, rfl, rfl⟩ := h
    exact ⟨c1, c2, f1, f2, iha _ _ _ _ hz.1 h1, ihb _ _ _ _ hz.2 h2, rfl, rfl⟩
  | arr n a ih =>
    intro m x cs fp hz h
    exact ⟨h.1, repA_imp x cs fp (fun y _ c f _ hr => ih _ _ _ _ hz hr) h.2⟩
  | list a ih =>
    intro m x cs fp hz h
    cases m with
    | o m =>
      simp only [noS] at hz
      rcases h with h | ⟨b, o, cap, fs, rfl, hl, rfl, hsp, hr⟩
      · exact .inl h
      · exact .inr ⟨b, o, cap, fs, rfl, hl, rfl, hsp, repL_imp (fun _ _ => False) (Same.refl _ w) (fun _ h => h) x o fs (fun y _ c f _ hr => ih _ _ _ _ hz hr) hr⟩
    | _ => simp [noS] at hz
  | ptr a ih =>
    intro m x cs fp hz h
    cases m with
    | o m =>
      simp only [noS] at hz
      obtain ⟨y, b, o, c, f, rfl, rfl, rfl, hsp, hc, hr⟩ := h
      exact ⟨y, b, o, c, f, rfl, rfl, rfl, hsp, hc, ih _ _ _ _ hz hr⟩
    | s => exact h
    | _ => simp [noS] at hz

def Apart (f g : List Res) : Prop := ∀ r ∈ f, ∀ q ∈ g, r.blk ≠ q.blk
def ND (f : List Res) : Prop := f.Pairwise fun r q => r.blk ≠ q.blk

theorem ND.append {f g : List Res} : ND (f ++ g) ↔ ND f ∧ ND g ∧ Apart f g := by
  unfold ND Apart
  rw [List.pairwise_append]

theorem repL_share {α : Type} {R : α → List Value → List Res → Prop} {Q : (Nat → Prop) → α → List Value → List Res → Prop} {w : World} {sz b : Nat}
    (hQ : ∀ G G' x c f, (∀ b, G b → G' b) → Q G x c f → Q G' x c f) (G : Nat → Prop)
    (h : ∀ x c f, ND f → R x c f → ∃ g z : List Res, g.Sublist f ∧ z.Sublist f ∧ Apart g z ∧ Q (fun b => G b ∨ blks z b) x c g) : ∀ (xs : List α) (o : Nat) (fs : List Res), ND fs → repL R w sz b o xs fs →
    ∃ gs zs : List Res, gs.Sublist fs ∧ zs.Sublist fs ∧ Apart gs zs ∧ repL (Q fun b => G b ∨ blks zs b) w sz b o xs gs
  | [], _, _, _, hr => by
    have : _ = [] := hr
    subst this
    exact ⟨[], [], List.Sublist.refl _, List.Sublist.refl _, fun _ h => by simp at h, rfl⟩
  | x :: xs, o, fs, nd, hr => by
    obtain ⟨c, f1, f2, hc, hx, hl, rfl⟩ := hr
    obtain ⟨n1, n2, n12⟩ := ND.append.1 nd
    obtain ⟨g1, z1, s1, t1, a1, q1⟩ := h x c f1 n1 hx
    obtain ⟨g2, z2, s2, t2, a2, q2⟩ := repL_share hQ G h xs (o + sz) f2 n2 hl
    refine ⟨g1 ++ g2, z1 ++ z2, s1.append s2, t1.append t2, ?_, c, g1, g2, hc, hQ _ _ _ _ _ (fun b h => h.imp id (fun ⟨r, hr, e⟩ => ⟨r, by simp [hr], e⟩)) q1, ?_, rfl⟩
    · intro r hr q hq
      rcases List.mem_append.1 hr with hr | hr <;> rcases List.mem_append.1 hq with hq | hq
      · exact a1 r hr q hq
      · exact n12 r (s1.subset hr) q (t2.subset hq)
      · exact (n12 q (t1.subset hq) r (s2.subset hr)).symm
      · exact a2 r hr q hq
    · have mono : ∀ (xs : List α) (o : Nat) (gs : List Res), repL (Q fun b => G b ∨ blks z2 b) w sz b o xs gs → repL (Q fun b => G b ∨ blks (z1 ++ z2) b) w sz b o xs gs := by
        intro xs
        induction xs with
        | nil => intro o gs h; exact h
        | cons y ys ih =>
          intro o gs h
          obtain ⟨c, f1, f2, hc, hx, hl, rfl⟩ := h
          exact ⟨c, f1, f2, hc, hQ _ _ _ _ _ (fun b h => h.imp id (fun ⟨r, hr, e⟩ => ⟨r, by simp [hr], e⟩)) hx, ih _ _ hl, rfl⟩
      exact mono _ _ _ q2

theorem coeS_ok : ∀ (t : Ty) (m m' : Md), coeS t m m' = true → ∀ x : t.den, coeOk t m m' x = true := by
  intro t
  induction t with
  | pair a b iha ihb =>
    intro m m' h x
    unfold coeS at h
    unfold coeOk
    by_cases e : m = m'
    · simp [e]
    · simp only [e, if_false] at h ⊢
      cases m' with
      | s => exact h
      | h => simp only [Bool.and_eq_true] at h ⊢; exact ⟨iha _ _ h.1 _, ihb _ _ h.2 _⟩
      | o _ => simp only [Bool.and_eq_true] at h ⊢; exact ⟨iha _ _ h.1 _, ihb _ _ h.2 _⟩
      | p _ _ => simp only [Bool.and_eq_true] at h ⊢; exact ⟨iha _ _ h.1 _, ihb _ _ h.2 _⟩
  | list a ih =>
    intro m m' h x
    unfold coeS at h
    unfold coeOk
    by_cases e : m = m'
    · simp [e]
    · simp only [e, if_false] at h ⊢
      cases m' with
      | s => exact h
      | o m2 =>
        cases m with
        | o m1 => simp only at h; simp only [h, Bool.true_or]
        | _ => simp at h
      | h => cases m <;> simp at h
      | p _ _ => cases m <;> simp at h
  | ptr a ih =>
    intro m m' h x
    unfold coeS at h
    unfold coeOk
    by_cases e : m = m'
    · simp [e]
    · simp only [e, if_false] at h ⊢
      cases m' with
      | s => exact h
      | _ => simp at h
  | _ =>
    intro m m' h x
    unfold coeS at h
    unfold coeOk
    by_cases e : m = m'
    · simp [e]
    · simp only [e, if_false] at h ⊢
      cases m' with
      | s => exact h
      | _ => simp at h

/-- a value seen under another mark: part of what it owned is shared from now on -/
theorem rep_coe {G : Nat → Prop} {w : World} : ∀ (t : Ty) (m m' : Md) (x : t.den) (cs : List Value) (fp : List Res), coeOk t m m' x = true → ND fp →
    rep G w t m x cs fp → ∃ f z : List Res, f.Sublist fp ∧ z.Sublist fp ∧ Apart f z ∧ rep (fun b => G b ∨ blks z b) w t m' x cs f := by
  have same : ∀ (t : Ty) (m : Md) (x : t.den) (cs : List Value) (fp : List Res), rep G w t m x cs fp →
      ∃ f z : List Res, f.Sublist fp ∧ z.Sublist fp ∧ Apart f z ∧ rep (fun b => G b ∨ blks z b) w t m x cs f := fun t m x cs fp h =>
    ⟨fp, [], List.Sublist.refl _, List.nil_sublist _, (fun _ _ _ hq => by simp at hq), rep_frame (X := fun _ _ => False) (Same.refl _ w) (fun _ h => .inl h) (fun _ _ h => h.elim) t m x cs fp (fun _ _ _ h => h) h⟩
  have share : ∀ (t : Ty) (m : Md) (x : t.den) (cs : List Value) (fp : List Res), frz t m = true → rep G w t m x cs fp →
      ∃ f z : List Res, f.Sublist fp ∧ z.Sublist fp ∧ Apart f z ∧ rep (fun b => G b ∨ blks z b) w t .s x cs f := fun t m x cs fp hz h =>
    ⟨[], fp, List.nil_sublist _, List.Sublist.refl _, (fun _ h => by simp at h), rep_share (fun _ h => .inl h) t m x cs fp hz (fun r hr => .inr ⟨r, hr, rfl⟩) h⟩
  intro t
  induction t with
  | pair a b iha ihb =>
    intro m m' x cs fp hc nd h
    unfold coeOk at hc
    by_cases e : m = m'
    · subst e; exact same _ _ _ _ _ h
    · simp only [e, if_false] at hc
      have parts : coeOk a m.l m'.l x.1 = true → coeOk b m.r m'.r x.2 = true → ∃ f z : List Res, f.Sublist fp ∧ z.Sublist fp ∧ Apart f z ∧ rep (fun b => G b ∨ blks z b) w (.pair a b) m' x cs f := by
        intro h1 h2
        obtain ⟨c1, c2, f1, f2, r1, r2, rfl, rfl⟩ := h
        obtain ⟨n1, n2, n12⟩ := ND.append.1 nd
        obtain ⟨g1, z1, s1, t1, a1, q1⟩ := iha _ _ _ _ _ h1 n1 r1
        obtain ⟨g2, z2, s2, t2, a2, q2⟩ := ihb _ _ _ _ _ h2 n2 r2
        refine ⟨g1 ++ g2, z1 ++ z2, s1.append s2, t1.append t2, ?_, c1, c2, g1, g2, ?_, ?_, rfl, rfl⟩
        · intro r hr q hq
          rcases List.mem_append.1 hr with hr | hr <;> rcases List.mem_append.1 hq with hq | hq
          · exact a1 r hr q hq
          · exact n12 r (s1.subset hr) q (t2.subset hq)
          · exact (n12 q (t1.subset hq) r (s2.subset hr)).symm
          · exact a2 r hr q hq
        · exact rep_frame (X := fun _ _ => False) (Same.refl _ w) (fun b h => h.imp id (fun ⟨r, hr, e⟩ => ⟨r, by simp [hr], e⟩)) (fun _ _ h => h.elim) _ _ _ _ _ (fun _ _ _ h => h) q1
        · exact rep_frame (X := fun _ _ => False) (Same.refl _ w) (fun b h => h.imp id (fun ⟨r, hr, e⟩ => ⟨r, by simp [hr], e⟩)) (fun _ _ h => h.elim) _ _ _ _ _ (fun _ _ _ h => h) q2
      cases m' with
      | s => exact share _ _ _ _ _ hc h
      | h => simp only [Bool.and_eq_true] at hc; exact parts hc.1 hc.2
      | o _ => simp only [Bool.and_eq_true] at hc; exact parts hc.1 hc.2
      | p _ _ => simp only [Bool.and_eq_true] at hc; exact parts hc.1 hc.2
  | list a ih =>
    intro m m' x cs fp hc nd h
    unfold coeOk at hc
    by_cases e : m = m'
    · subst e; exact same _ _ _ _ _ h
    · simp only [e, if_false] at hc
      cases m' with
      | s => exact share _ _ _ _ _ (by simpa using hc) h
      | o m2 =>
        cases m with
        | o m1 =>
          simp only [Bool.or_eq_true, List.isEmpty_iff] at hc
          rcases hc with hc | hc
          · rcases h with h | ⟨b, o, cap, fs, rfl, hl, rfl, hsp, hr⟩
            · exact ⟨fp, [], List.Sublist.refl _, List.nil_sublist _, (fun _ _ _ hq => by simp at hq), .inl h⟩
            · have nd' := List.pairwise_cons.1 nd
              obtain ⟨gs, zs, s1, t1, a1, q1⟩ := repL_share (Q := fun G => rep G w a m2) (fun G G' x c f hg h => rep_frame (X := fun _ _ => False) (Same.refl _ w) hg (fun _ _ h => h.elim) _ _ _ _ _ (fun _ _ _ h => h) h) G
                (fun x c f ndf h => ih m1 m2 x c f (coeS_ok a m1 m2 hc x) ndf h) x o fs nd'.2 hr
              refine ⟨⟨b, o, o + cap * a.sz⟩ :: gs, zs, s1.cons_cons _, t1.cons _, ?_, .inr ⟨b, o, cap, gs, rfl, hl, rfl, hsp, q1⟩⟩
              intro r hr q hq
              rcases List.mem_cons.1 hr with rfl | hr
              · exact nd'.1 q (t1.subset hq)
              · exact a1 r hr q hq
          subst hc
          rcases h with h | ⟨b, o, cap, fs, rfl, hl, rfl, hsp, hr⟩
          · exact ⟨fp, [], List.Sublist.refl _, List.nil_sublist _, (fun _ _ _ hq => by simp at hq), .inl h⟩
          · exact ⟨_, [], List.Sublist.refl _, List.nil_sublist _, (fun _ _ _ hq => by simp at hq), .inr ⟨b, o, cap, fs, rfl, hl, rfl, hsp, hr⟩⟩
        | _ => simp at hc
      | h => cases m <;> simp at hc
      | p _ _ => cases m <;> simp at hc
  | ptr a ih =>
    intro m m' x cs fp hc nd h
    unfold coeOk at hc
    by_cases e : m = m'
    · subst e; exact same _ _ _ _ _ h
    · simp only [e, if_false] at hc
      cases m' with
      | s => exact share _ _ _ _ _ (by simpa using hc) h
      | o m2 =>
        cases m with
        | o m1 =>
          cases x with
          | none => simp at hc
          | some y =>
            simp only at hc
            obtain ⟨y', b, o, c, f, hy, rfl, rfl, hsp, hcc, hr⟩ := h
            cases hy
            have ndf := List.pairwise_cons.1 nd
            obtain ⟨f2, z, h1, h2, h3, h4⟩ := ih _ _ _ _ _ hc ndf.2 hr
            refine ⟨⟨b, o, o + a.sz⟩ :: f2, z, h1.cons_cons _, h2.cons _, ?_, y, b, o, c, f2, rfl, rfl, rfl, hsp, hcc, h4⟩
            intro r hr q hq
            rcases List.mem_cons.1 hr with rfl | hr
            · exact ndf.1 q (h2.subset hq)
            · exact h3 r hr q hq
        | _ => simp at hc
      | h => cases m <;> simp at hc
      | p _ _ => cases m <;> simp at hc
  | _ =>
    intro m m' x cs fp hc nd h
    unfold coeOk at hc
    by_cases e : m = m'
    · subst e; exact same _ _ _ _ _ h
    · simp only [e, if_false] at hc
      cases m' with
      | s => exact share _ _ _ _ _ hc h
      | _ => simp at hc

theorem rep_frzM {G : Nat → Prop} {w : World} : ∀ (p : List SP) (t : Ty) (m m' : Md) (x : t.den) (cs : List Value) (fp : List Res), frzM p t m = some m' → ND fp →
    rep G w t m x cs fp → ∃ f z : List Res, f.Sublist fp ∧ z.Sublist fp ∧ Apart f z ∧ rep (fun b => G b ∨ blks z b) w t m' x cs f
  | [], t, m, m', x, cs, fp, hf, nd, h => by
    unfold frzM at hf
    split at hf
    · rename_i hz
      cases hf
      exact ⟨[], fp, List.nil_sublist _, List.Sublist.refl _, (fun _ h => by simp at h), rep_share (fun _ h => .inl h) t m x cs fp hz (fun r hr => .inr ⟨r, hr, rfl⟩) h⟩
    · cases hf
  | s :: p, t, m, m', x, cs, fp, hf, nd, h => by
    have grow : ∀ {z z' : List Res} {t : Ty} {m : Md} {x : t.den} {cs : List Value} {f : List Res}, (∀ r ∈ z, r ∈ z') → rep (fun b => G b ∨ blks z b) w t m x cs f → rep (fun b => G b ∨ blks z' b) w t m x cs f := fun hz h =>
      rep_frame (X := fun _ _ => False) (Same.refl _ w) (fun b h => h.imp id (fun ⟨r, hr, e⟩ => ⟨r, hz r hr, e⟩)) (fun _ _ h => h.elim) _ _ _ _ _ (fun _ _ _ h => h) h
    have grow0 : ∀ {z' : List Res} {t : Ty} {m : Md} {x : t.den} {cs : List Value} {f : List Res}, rep G w t m x cs f → rep (fun b => G b ∨ blks z' b) w t m x cs f := fun h =>
      rep_frame (X := fun _ _ => False) (Same.refl _ w) (fun b h => .inl h) (fun _ _ h => h.elim) _ _ _ _ _ (fun _ _ _ h => h) h
    cases s <;> cases t <;> try (simp [frzM] at hf; done)
    · simp only [frzM] at hf
      obtain ⟨l, hl, rfl⟩ := Option.map_eq_some_iff.1 hf
      obtain ⟨c1, c2, f1, f2, r1, r2, rfl, rfl⟩ := h
      obtain ⟨n1, n2, n12⟩ := ND.append.1 nd
      obtain ⟨g, z, s1, t1, a1, q1⟩ := rep_frzM p _ _ _ _ _ _ hl n1 r1
      refine ⟨g ++ f2, z, s1.append (List.Sublist.refl _), t1.trans (List.sublist_append_left _ _), ?_, c1, c2, g, f2, by rw [Md.mk_l]; exact q1, by rw [Md.mk_r]; exact grow0 r2, rfl, rfl⟩
      intro r hr q hq
      rcases List.mem_append.1 hr with hr | hr
      · exact a1 r hr q hq
      · exact (n12 q (t1.subset hq) r hr).symm
    · simp only [frzM] at hf
      obtain ⟨l, hl, rfl⟩ := Option.map_eq_some_iff.1 hf
      obtain ⟨c1, c2, f1, f2, r1, r2, rfl, rfl⟩ := h
      obtain ⟨n1, n2, n12⟩ := ND.append.1 nd
      obtain ⟨g, z, s1, t1, a1, q1⟩ := rep_frzM p _ _ _ _ _ _ hl n2 r2
      refine ⟨f1 ++ g, z, (List.Sublist.refl _).append s1, t1.trans (List.sublist_append_right _ _), ?_, c1, c2, f1, g, by rw [Md.mk_l]; exact grow0 r1, by rw [Md.mk_r]; exact q1, rfl, rfl⟩
      intro r hr q hq
      rcases List.mem_append.1 hr with hr | hr
      · exact n12 r hr q (t1.subset hq)
      · exact a1 r hr q hq
    · cases m <;> try (simp [frzM] at hf; done)
      rename_i a m
      simp only [frzM] at hf
      obtain ⟨l, hl, rfl⟩ := Option.map_eq_some_iff.1 hf
      rcases h with ⟨rfl, rfl, rfl⟩ | ⟨b, o, cap, fs, rfl, hlc, rfl, hsp, hr⟩
      · exact ⟨[], [], List.Sublist.refl _, List.Sublist.refl _, fun _ h => by simp at h, .inl ⟨rfl, rfl, rfl⟩⟩
      · have nd' := List.pairwise_cons.1 nd
        obtain ⟨gs, zs, s1, t1, a1, q1⟩ := repL_share (Q := fun G => rep G w a l) (fun G G' x c f hg h => rep_frame (X := fun _ _ => False) (Same.refl _ w) hg (fun _ _ h => h.elim) _ _ _ _ _ (fun _ _ _ h => h) h) G
          (fun x c f ndf h => rep_frzM p a m l x c f hl ndf h) x o fs nd'.2 hr
        refine ⟨⟨b, o, o + cap * a.sz⟩ :: gs, zs, s1.cons_cons _, t1.cons _, ?_, .inr ⟨b, o, cap, gs, rfl, hlc, rfl, hsp, q1⟩⟩
        intro r hr q hq
        rcases List.mem_cons.1 hr with rfl | hr
        · exact nd'.1 q (t1.subset hq)
        · exact a1 r hr q hq
    · cases m <;> try (simp [frzM] at hf; done)
      rename_i a m
      simp only [frzM] at hf
      obtain ⟨l, hl, rfl⟩ := Option.map_eq_some_iff.1 hf
      obtain ⟨y, b, o, c, f, rfl, rfl, rfl, hsp, hcc, hr⟩ := h
      have nd' := List.pairwise_cons.1 nd
      obtain ⟨g, z, s1, t1, a1, q1⟩ := rep_frzM p _ _ _ _ _ _ hl nd'.2 hr
      refine ⟨⟨b, o, o + a.sz⟩ :: g, z, s1.cons_cons _, t1.cons _, ?_, y, b, o, c, g, rfl, rfl, rfl, hsp, hcc, q1⟩
      intro r hr q hq
      rcases List.mem_cons.1 hr with rfl | hr
      · exact nd'.1 q (t1.subset hq)
      · exact a1 r hr q hq

end Go.VL

namespace Go.VL

/-! ### Following a path through memory -/
def walkA (w : World) : List Step → Ty → Addr → Option Addr
  | [], _, ad => some ad
  | .fst :: p, .pair a _, ad => walkA w p a ad
  | .snd :: p, .pair a b, ad => walkA w p b (ad.add a.sz)
  | .idx i :: p, .arr n a, ad => if i.toNat < n then walkA w p a (ad.add (i.toNat * a.sz)) else none
  | .idx i :: p, .list a, ad => match w.cell? ad with
    | some (.slice (some ad') len _) => if i.toNat < len then walkA w p a (ad'.add (i.toNat * a.sz)) else none
    | _ => none
  | .der :: p, .ptr a, ad => match w.cell? ad with
    | some (.pointer (some ad')) => walkA w p a ad'
    | _ => none
  | _, _, _ => none

/-- the place that a path names from a value -/
def walkV (w : World) : List Step → Ty → List Value → Option Addr
  | .der :: p, .ptr a, [.pointer (some ad)] => walkA w p a ad
  | .idx i :: p, .list a, [.slice (some ad) len _] => if i.toNat < len then walkA w p a (ad.add (i.toNat * a.sz)) else none
  | _, _, _ => none



section split
variable {α : Type} {R : α → List Value → List Res → Prop} {w : World} {sz b : Nat}

theorem repA_split (hlen : ∀ x c f, R x c f → c.length = sz) : ∀ (xs : List α) (cs : List Value) (fs : List Res) (k : Nat) (h : k < xs.length), repA R xs cs fs →
    ∃ c1 ck c2 f1 fk f2, cs = c1 ++ (ck ++ c2) ∧ fs = f1 ++ (fk ++ f2) ∧ R xs[k] ck fk ∧ c1.length = k * sz ∧
      ∀ (R' : α → List Value → List Res → Prop) y ck' fk', (∀ x c f, (∀ r ∈ f, r ∈ f1 ++ f2) → R x c f → R' x c f) → R' y ck' fk' →
        repA R' (xs.set k y) (c1 ++ (ck' ++ c2)) (f1 ++ (fk' ++ f2))
  | [], _, _, k, h, _ => absurd h (by simp)
  | x :: xs, cs, fs, 0, _, hr => by
    obtain ⟨c1, c2, f1, f2, h1, h2, rfl, rfl⟩ := hr
    refine ⟨[], c1, c2, [], f1, f2, rfl, rfl, h1, by simp, fun R' y ck' fk' hi hy => ?_⟩
    exact ⟨ck', c2, fk', f2, hy, repA_imp xs c2 f2 (fun z _ c f hf hz => hi z c f (by simpa using hf) hz) h2, rfl, rfl⟩
  | x :: xs, cs, fs, k + 1, h, hr => by
    obtain ⟨c1, c2, f1, f2, h1, h2, rfl, rfl⟩ := hr
    obtain ⟨d1, ck, d2, g1, gk, g2, rfl, rfl, hk, hl, hupd⟩ := repA_split hlen xs c2 f2 k (by simpa using h) h2
    refine ⟨c1 ++ d1, ck, d2, f1 ++ g1, gk, g2, by simp, by simp, by simpa using hk, by simp [hl, hlen _ _ _ h1, Nat.add_mul, Nat.add_comm], fun R' y ck' fk' hi hy => ?_⟩
    refine ⟨c1, d1 ++ (ck' ++ d2), f1, g1 ++ (fk' ++ g2), hi x c1 f1 (fun r hr => by simp [hr]) h1, ?_, by simp, by simp⟩
    exact hupd R' y ck' fk' (fun z c f hf hz => hi z c f (fun r hr => by have := hf r hr; simp at this ⊢; rcases this with h | h <;> simp [h]) hz) hy

theorem repL_split (hlen : ∀ x c f, R x c f → c.length = sz) : ∀ (xs : List α) (o : Nat) (fs : List Res) (k : Nat) (h : k < xs.length), repL R w sz b o xs fs →
    ∃ ck f1 fk f2, fs = f1 ++ (fk ++ f2) ∧ cellsAt w ⟨b, o + k * sz, none⟩ ck ∧ R xs[k] ck fk ∧
      ∀ (R' : α → List Value → List Res → Prop) (X : Nat → Nat → Prop) (w' : World) y ck' fk', Same X w w' → (∀ i, X b i → o + k * sz ≤ i ∧ i < o + k * sz + sz) →
        (∀ x c f, (∀ r ∈ f, r ∈ f1 ++ f2) → R x c f → R' x c f) → cellsAt w' ⟨b, o + k * sz, none⟩ ck' → R' y ck' fk' → repL R' w' sz b o (xs.set k y) (f1 ++ (fk' ++ f2))
  | [], _, _, k, h, _ => absurd h (by simp)
  | x :: xs, o, fs, 0, _, hr => by
    obtain ⟨c, f1, f2, hc, h1, h2, rfl⟩ := hr
    refine ⟨c, [], f1, f2, rfl, by simpa using hc, h1, fun R' X w' y ck' fk' hs hx hi hc' hy => ?_⟩
    refine ⟨ck', fk', f2, by simpa using hc', hy, ?_, rfl⟩
    have : ∀ (xs : List α) (o' : Nat) (fs : List Res), o + sz ≤ o' → (∀ r ∈ fs, r ∈ f2) → repL R w sz b o' xs fs → repL R' w' sz b o' xs fs := by
      intro xs
      induction xs with
      | nil => intro o' fs _ _ h; exact h
      | cons z zs ih =>
        intro o' fs ho hfs h
        obtain ⟨c, g1, g2, hc, hz, hl, rfl⟩ := h
        refine ⟨c, g1, g2, hs.cellsAt hc (fun j hj hX => ?_), hi z c g1 (fun r hr => by simpa using hfs r (by simp [hr])) hz, ih (o' + sz) g2 (by omega) (fun r hr => hfs r (by simp [hr])) hl, rfl⟩
        rw [add_mk] at hX
        have := hx _ hX
        simp at this
        omega
    exact this xs (o + sz) f2 (Nat.le_refl _) (fun _ h => h) h2
  | x :: xs, o, fs, k + 1, h, hr => by
    obtain ⟨c, f1, f2, hc, h1, h2, rfl⟩ := hr
    obtain ⟨ck, g1, gk, g2, rfl, hck, hk, hupd⟩ := repL_split hlen xs (o + sz) f2 k (by simpa using h) h2
    have e : o + sz + k * sz = o + (k + 1) * sz := by rw [Nat.add_mul]; omega
    rw [e] at hck hupd
    refine ⟨ck, f1 ++ g1, gk, g2, by simp, hck, by simpa using hk, fun R' X w' y ck' fk' hs hx hi hc' hy => ?_⟩
    refine ⟨c, f1, g1 ++ (fk' ++ g2), hs.cellsAt hc (fun j hj hX => ?_), hi x c f1 (fun r hr => by simp [hr]) h1, ?_, by simp⟩
    · rw [add_mk] at hX
      have := hx _ hX
      have hl := hlen _ _ _ h1
      simp [Nat.add_mul] at this
      omega
    · exact hupd R' X w' y ck' fk' hs hx (fun z c f hf hz => hi z c f (fun r hr => by have := hf r hr; simp at this ⊢; rcases this with h | h <;> simp [h]) hz) hc' hy
end split

theorem spanOk.mono {w : World} {b hi hi' : Nat} (h : spanOk w b hi) (hh : hi' ≤ hi) : spanOk w b hi' := by
  obtain ⟨c, e, h1, h2⟩ := h
  exact ⟨c, e, h1, by omega⟩

/-- where the place lies: in the block b0, or in one that is owned -/
def InRes (b0 lo hi : Nat) (fp : List Res) (b o n : Nat) : Prop :=
  (b = b0 ∧ lo ≤ o ∧ o + n ≤ hi) ∨ ∃ r ∈ fp, r.blk = b ∧ r.lo ≤ o ∧ o + n ≤ r.hi

/-- what a write at a place may turn -/
def cut (b o n : Nat) (f : List Res) : Nat → Nat → Prop := fun b' i => (b' = b ∧ o ≤ i ∧ i < o + n) ∨ blks f b'

theorem cellsAt_inj {w : World} {ad : Addr} {c c' : List Value} (h : cellsAt w ad c) (h' : cellsAt w ad c') (hl : c.length = c'.length) : c = c' := by
  apply List.ext_getElem?
  intro j
  by_cases hj : j < c.length
  · have h1 := h j c[j] (List.getElem?_eq_getElem hj)
    have h2 := h' j c'[j] (List.getElem?_eq_getElem (hl ▸ hj))
    rw [h1] at h2
    rw [List.getElem?_eq_getElem hj, List.getElem?_eq_getElem (hl ▸ hj)]
    exact h2
  · rw [List.getElem?_eq_none (by omega), List.getElem?_eq_none (by omega)]

theorem cell_of {w : World} {b o : Nat} {v : Value} (h : cellsAt w ⟨b, o, none⟩ [v]) : w.cell? ⟨b, o, none⟩ = some v := h 0 v rfl

theorem lensA {G : Nat → Prop} {w : World} : ∀ (p : List Step) (t : Ty) (m : Md) (x : t.den) (b0 o0 : Nat) (c : List Value) (fp : List Res) (v v' : TV) (ad : Addr) (r2 : Md × t.den),
    cellsAt w ⟨b0, o0, none⟩ c → rep G w t m x c fp → ND fp → (∀ r ∈ fp, r.blk ≠ b0) → ¬ G b0 → (∀ r ∈ fp, ¬ G r.blk) → spanOk w b0 (o0 + t.sz) →
    getP p t m x = some v → walkA w p t ⟨b0, o0, none⟩ = some ad → v'.t = v.t → setP p t m x v' = some r2 →
    ∃ b o c1 f pre post, ad = ⟨b, o, none⟩ ∧ cellsAt w ad c1 ∧ rep G w v.t v.m v.x c1 f ∧ fp = pre ++ (f ++ post) ∧ spanOk w b (o + v.t.sz) ∧
      InRes b0 o0 (o0 + t.sz) (pre ++ post) b o v.t.sz ∧
      ∀ (G' : Nat → Prop) (X : Nat → Nat → Prop) w' c1' f', (∀ b, G b → G' b) → Same X w w' → (∀ b' i, X b' i → ¬ G b') → (∀ b' i, X b' i → cut b o v.t.sz f b' i ∨ (b' ≠ b0 ∧ ¬ blks fp b')) → cellsAt w' ad c1' → rep G' w' v'.t v'.m v'.x c1' f' →
        ∃ c', cellsAt w' ⟨b0, o0, none⟩ c' ∧ rep G' w' t r2.1 r2.2 c' (pre ++ (f' ++ post)) := by
  intro p
  induction p with
  | nil =>
    intro t m x b0 o0 c fp v v' ad r2 hc hr nd hb0 hg hgf hsp hget hwalk ht hset
    simp only [getP, Option.some.injEq] at hget
    subst hget
    simp only [walkA, Option.some.injEq] at hwalk
    subst hwalk
    obtain ⟨t', m', x'⟩ := v'
    simp only at ht
    subst ht
    simp only [setP, castV, dif_pos, Option.map_some, Option.some.injEq] at hset
    subst hset
    refine ⟨b0, o0, c, fp, [], [], rfl, hc, hr, by simp, hsp, .inl ⟨rfl, Nat.le_refl _, Nat.le_refl _⟩, fun G' X w' c1' f' hG hs _ _ hc1 hr1 => ⟨c1', hc1, ?_⟩⟩
    simpa using hr1
  | cons s p ih =>
    intro t m x b0 o0 c fp v v' ad r2 hc hr nd hb0 hg hgf hsp hget hwalk ht hset
    cases s with
    | fst =>
      cases t with
      | pair a bt =>
        obtain ⟨ca, cb, fa, fb, ha, hb, rfl, rfl⟩ := hr
        obtain ⟨na, nb, nab⟩ := ND.append.1 nd
        obtain ⟨hca, hcb⟩ := cellsAt_append.1 hc
        simp only [getP] at hget
        simp only [walkA] at hwalk
        simp only [setP, Option.map_eq_some_iff] at hset
        obtain ⟨q, hset, rfl⟩ := hset
        have la := rep_len _ _ _ _ _ ha
        obtain ⟨b, o, c1, f, pre, post, rfl, hc1, hr1, rfl, hsp1, hin, hupd⟩ := ih a m.l x.1 b0 o0 ca fa v v' ad q hca ha na (fun r hr => hb0 r (by simp [hr])) hg
          (fun r hr => hgf r (by simp [hr])) (hsp.mono (by simp only [Ty.sz]; omega)) hget hwalk ht hset
        have hbb : b = b0 ∨ ∃ r ∈ pre ++ post, r.blk = b := by
          rcases hin with ⟨h, _⟩ | ⟨r, hr, h, _⟩
          · exact .inl h
          · exact .inr ⟨r, hr, h⟩
        refine ⟨b, o, c1, f, pre, post ++ fb, rfl, hc1, hr1, by simp, hsp1, ?_, fun G' X w' c1' f' hG hs hXG hXc hc1' hr1' => ?_⟩
        · rcases hin with ⟨h1, h2, h3⟩ | ⟨r, hr, h⟩
          · exact .inl ⟨h1, h2, by simp [Ty.sz]; omega⟩
          · exact .inr ⟨r, by simp at hr ⊢; rcases hr with h | h <;> simp [h], h⟩
        · obtain ⟨ca', hca', hra'⟩ := hupd G' X w' c1' f' hG hs hXG (fun b' i hx => (hXc b' i hx).imp id (fun h => ⟨h.1, fun ⟨r, hr, e⟩ => h.2 ⟨r, by simp at hr ⊢; rcases hr with h | h | h <;> simp [h], e⟩⟩)) hc1' hr1'
          have la' := rep_len _ _ _ _ _ hra'
          refine ⟨ca' ++ cb, cellsAt_append.2 ⟨hca', ?_⟩, ca', cb, pre ++ (f' ++ post), fb, by simpa using hra', ?_, rfl, by simp⟩
          · rw [la', ← la]
            refine hs.cellsAt hcb (fun j hj hX => ?_)
            rw [add_mk, add_mk] at hX
            rcases hXc _ _ hX with (⟨h1, h2, h3⟩ | ⟨r, hr, h⟩) | ⟨hn, _⟩
            · rcases hin with ⟨_, _, h6⟩ | ⟨r, hr, h4, _⟩
              · simp at h3 h2; omega
              · exact hb0 r (by simp at hr ⊢; rcases hr with h | h <;> simp [h]) (h4.trans h1.symm)
            · exact hb0 r (by simp [hr]) h
            · exact hn rfl
          · simp only [Md.mk_r]
            refine rep_frame hs hG hXG _ _ _ _ _ (fun r hr i hX => ?_) hb
            rcases hXc _ _ hX with (⟨h1, _⟩ | ⟨q, hq, h⟩) | ⟨_, hn⟩
            · rcases hbb with h2 | ⟨q, hq, h2⟩
              · exact hb0 r (by simp [hr]) (h1.trans h2)
              · exact nab q (by simp at hq ⊢; rcases hq with h | h <;> simp [h]) r hr (h2.trans h1.symm)
            · exact nab q (by simp [hq]) r hr h
            · exact hn ⟨r, by simp [hr], rfl⟩
      | _ => simp [getP] at hget
    | snd =>
      cases t with
      | pair a bt =>
        obtain ⟨ca, cb, fa, fb, ha, hb, rfl, rfl⟩ := hr
        obtain ⟨na, nb, nab⟩ := ND.append.1 nd
        obtain ⟨hca, hcb⟩ := cellsAt_append.1 hc
        simp only [getP] at hget
        simp only [walkA] at hwalk
        simp only [setP, Option.map_eq_some_iff] at hset
        obtain ⟨q, hset, rfl⟩ := hset
        have la := rep_len _ _ _ _ _ ha
        rw [la, add_mk] at hcb
        rw [add_mk] at hwalk
        obtain ⟨b, o, c1, f, pre, post, rfl, hc1, hr1, rfl, hsp1, hin, hupd⟩ := ih bt m.r x.2 b0 (o0 + a.sz) cb fb v v' ad q hcb hb nb (fun r hr => hb0 r (by simp [hr])) hg
          (fun r hr => hgf r (by simp [hr])) (by simpa [Ty.sz, Nat.add_assoc] using hsp) hget hwalk ht hset
        have hbb : b = b0 ∨ ∃ r ∈ pre ++ post, r.blk = b := by
          rcases hin with ⟨h, _⟩ | ⟨r, hr, h, _⟩
          · exact .inl h
          · exact .inr ⟨r, hr, h⟩
        refine ⟨b, o, c1, f, fa ++ pre, post, rfl, hc1, hr1, by simp, hsp1, ?_, fun G' X w' c1' f' hG hs hXG hXc hc1' hr1' => ?_⟩
        · rcases hin with ⟨h1, h2, h3⟩ | ⟨r, hr, h⟩
          · exact .inl ⟨h1, by omega, by simp [Ty.sz]; omega⟩
          · exact .inr ⟨r, by simp at hr ⊢; rcases hr with h | h <;> simp [h], h⟩
        · obtain ⟨cb', hcb', hrb'⟩ := hupd G' X w' c1' f' hG hs hXG (fun b' i hx => (hXc b' i hx).imp id (fun h => ⟨h.1, fun ⟨r, hr, e⟩ => h.2 ⟨r, by simp at hr ⊢; rcases hr with h | h | h <;> simp [h], e⟩⟩)) hc1' hr1'
          refine ⟨ca ++ cb', cellsAt_append.2 ⟨?_, by rw [la, add_mk]; exact hcb'⟩, ca, cb', fa, pre ++ (f' ++ post), ?_, by simpa using hrb', rfl, by simp⟩
          · refine hs.cellsAt hca (fun j hj hX => ?_)
            rw [add_mk] at hX
            rcases hXc _ _ hX with (⟨h1, h2, h3⟩ | ⟨r, hr, h⟩) | ⟨hn, _⟩
            · rcases hin with ⟨_, h6, _⟩ | ⟨r, hr, h4, _⟩
              · simp at h3 h2; omega
              · exact hb0 r (by simp at hr ⊢; rcases hr with h | h <;> simp [h]) (h4.trans h1.symm)
            · exact hb0 r (by simp [hr]) h
            · exact hn rfl
          · simp only [Md.mk_l]
            refine rep_frame hs hG hXG _ _ _ _ _ (fun r hr i hX => ?_) ha
            rcases hXc _ _ hX with (⟨h1, _⟩ | ⟨q, hq, h⟩) | ⟨_, hn⟩
            · rcases hbb with h2 | ⟨q, hq, h2⟩
              · exact hb0 r (by simp [hr]) (h1.trans h2)
              · exact nab r hr q (by simp at hq ⊢; rcases hq with h | h <;> simp [h]) (h1.trans h2.symm)
            · exact nab r hr q (by simp [hq]) h.symm
            · exact hn ⟨r, by simp [hr], rfl⟩
      | _ => simp [getP] at hget
    | idx i =>
      cases t with
      | arr n a =>
        obtain ⟨hn, hr⟩ := hr
        simp only [getP] at hget
        simp only [walkA] at hwalk
        split at hwalk
        case isFalse => cases hwalk
        case isTrue hi =>
        have hk : i.toNat < x.length := by rw [hn]; exact hi
        simp only [setP, Option.bind_eq_some_iff] at hset
        obtain ⟨q, hset, hq⟩ := hset
        split at hq
        case isFalse => cases hq
        case isTrue hqm =>
        simp only [Option.some.injEq] at hq
        subst hq
        have hx : x.getD i.toNat a.zero = x[i.toNat] := by simp [List.getD, hk]
        rw [hx] at hget hset
        obtain ⟨c1, ck, c2, f1, fk, f2, rfl, rfl, hrk, hl1, hupdA⟩ := repA_split (sz := a.sz) (fun x c f h => rep_len _ _ _ _ _ h) x c fp i.toNat hk hr
        obtain ⟨n1, n2, n12⟩ := ND.append.1 nd
        obtain ⟨nk, n2, nk2⟩ := ND.append.1 n2
        obtain ⟨hc1, hc2⟩ := cellsAt_append.1 hc
        obtain ⟨hck, hc2⟩ := cellsAt_append.1 hc2
        rw [hl1, add_mk] at hck hc2
        have lk := rep_len _ _ _ _ _ hrk
        rw [lk, add_mk] at hc2
        rw [add_mk] at hwalk
        have hle : i.toNat * a.sz + a.sz ≤ n * a.sz := by
          have : (i.toNat + 1) * a.sz ≤ n * a.sz := Nat.mul_le_mul_right _ hi
          rwa [Nat.add_mul, Nat.one_mul] at this
        obtain ⟨b, o, d1, f, pre, post, rfl, hd1, hr1, rfl, hsp1, hin, hupd⟩ := ih a m.e x[i.toNat] b0 (o0 + i.toNat * a.sz) ck fk v v' ad q hck hrk nk (fun r hr => hb0 r (by simp [hr])) hg
          (fun r hr => hgf r (by simp [hr])) (hsp.mono (by simp only [Ty.sz]; omega)) hget hwalk ht hset
        have hbb : b = b0 ∨ ∃ r ∈ pre ++ post, r.blk = b := by
          rcases hin with ⟨h, _⟩ | ⟨r, hr, h, _⟩
          · exact .inl h
          · exact .inr ⟨r, hr, h⟩
        refine ⟨b, o, d1, f, f1 ++ pre, post ++ f2, rfl, hd1, hr1, by simp, hsp1, ?_, fun G' X w' c1' f' hG hs hXG hXc hc1' hr1' => ?_⟩
        · rcases hin with ⟨h1, h2, h3⟩ | ⟨r, hr, h⟩
          · exact .inl ⟨h1, by omega, by simp only [Ty.sz]; omega⟩
          · exact .inr ⟨r, by simp at hr ⊢; rcases hr with h | h <;> simp [h], h⟩
        · obtain ⟨ck', hck', hrk'⟩ := hupd G' X w' c1' f' hG hs hXG (fun b' i hx => (hXc b' i hx).imp id (fun h => ⟨h.1, fun ⟨r, hr, e⟩ => h.2 ⟨r, by simp at hr ⊢; rcases hr with h | h | h <;> simp [h], e⟩⟩)) hc1' hr1'
          have lk' := rep_len _ _ _ _ _ hrk'
          rw [hqm] at hrk'
          have frame : ∀ j, ¬ (o0 + i.toNat * a.sz ≤ j ∧ j < o0 + i.toNat * a.sz + a.sz) → ¬ X b0 j := by
            intro j hj hX
            rcases hXc _ _ hX with (⟨h1, h2, h3⟩ | ⟨r, hr, h⟩) | ⟨hn, _⟩
            · rcases hin with ⟨_, h5, h6⟩ | ⟨r, hr, h4, _⟩
              · exact hj ⟨by omega, by omega⟩
              · exact hb0 r (by simp at hr ⊢; rcases hr with h | h <;> simp [h]) (h4.trans h1.symm)
            · exact hb0 r (by simp [hr]) h
            · exact hn rfl
          refine ⟨c1 ++ (ck' ++ c2), cellsAt_append.2 ⟨?_, cellsAt_append.2 ⟨by rw [hl1, add_mk]; exact hck', ?_⟩⟩, ?_, ?_⟩
          · refine hs.cellsAt hc1 (fun j hj => ?_)
            rw [add_mk]
            exact frame _ (by simp; omega)
          · rw [hl1, lk', add_mk, add_mk]
            refine hs.cellsAt hc2 (fun j hj => ?_)
            rw [add_mk]
            exact frame _ (by simp)
          · simpa using hn
          · have := hupdA (rep G' w' a m.e) q.2 ck' (pre ++ (f' ++ post)) (fun y c g hg' hy => ?_) hrk'
            · simpa using this
            · refine rep_frame hs hG hXG _ _ _ _ _ (fun r hr j hX => ?_) hy
              have hrr := hg' r hr
              have hrf : r.blk ≠ b0 := hb0 r (by simp at hrr ⊢; rcases hrr with h | h <;> simp [h])
              have hne : ∀ z ∈ pre ++ (f ++ post), r.blk ≠ z.blk := by
                intro z hz
                rcases List.mem_append.1 hrr with h | h
                · exact n12 r h z (by simp at hz ⊢; rcases hz with h | h | h <;> simp [h])
                · exact (nk2 z hz r h).symm
              rcases hXc _ _ hX with (⟨h1, _⟩ | ⟨z, hz, h⟩) | ⟨_, hn⟩
              · rcases hbb with h2 | ⟨z, hz, h2⟩
                · exact hrf (h1.trans h2)
                · exact hne z (by simp at hz ⊢; rcases hz with h | h <;> simp [h]) (h1.trans h2.symm)
              · exact hne z (by simp [hz]) h.symm
              · exact hn ⟨r, by simp at hrr ⊢; rcases hrr with h | h <;> simp [h], rfl⟩
      | list a =>
        cases m with
        | o m =>
          simp only [getP] at hget
          simp only [setP, Option.bind_eq_some_iff] at hset
          obtain ⟨q, hset, hq⟩ := hset
          split at hq
          case isFalse => cases hq
          case isTrue hqm =>
          simp only [Option.some.injEq] at hq
          subst hq
          rcases hr with ⟨rfl, rfl, rfl⟩ | ⟨bb, oo, cap, fs, rfl, hlc, rfl, hspb, hr⟩
          · simp [walkA, cell_of hc] at hwalk
          · simp only [walkA, cell_of hc] at hwalk
            split at hwalk
            case isFalse => cases hwalk
            case isTrue hk =>
            have hx : x.getD i.toNat a.zero = x[i.toNat] := by simp [List.getD, hk]
            rw [hx] at hget hset
            obtain ⟨ck, f1, fk, f2, rfl, hck, hrk, hupdL⟩ := repL_split (sz := a.sz) (fun x c f h => rep_len _ _ _ _ _ h) x oo fs i.toNat hk hr
            have nd' : ND (f1 ++ (fk ++ f2)) ∧ ∀ r ∈ f1 ++ (fk ++ f2), bb ≠ r.blk := by
              have := List.pairwise_cons.1 nd
              exact ⟨this.2, fun r hr => this.1 r hr⟩
            obtain ⟨n1, n2, n12⟩ := ND.append.1 nd'.1
            obtain ⟨nk, n2, nk2⟩ := ND.append.1 n2
            have hbb0 : bb ≠ b0 := hb0 ⟨bb, oo, oo + cap * a.sz⟩ (by simp)
            rw [add_mk] at hwalk
            have hle : i.toNat * a.sz + a.sz ≤ cap * a.sz := by
              have : (i.toNat + 1) * a.sz ≤ cap * a.sz := Nat.mul_le_mul_right _ (by omega)
              rwa [Nat.add_mul, Nat.one_mul] at this
            obtain ⟨b, o, d1, f, pre, post, rfl, hd1, hr1, rfl, hsp1, hin, hupd⟩ := ih a m x[i.toNat] bb (oo + i.toNat * a.sz) ck fk v v' ad q hck hrk nk
              (fun r hr => (nd'.2 r (by simp [hr])).symm) (hgf ⟨bb, oo, oo + cap * a.sz⟩ (by simp)) (fun r hr => hgf r (by simp [hr]))
              (hspb.mono (by omega)) hget hwalk ht hset
            have hbr : ∃ r ∈ (⟨bb, oo, oo + cap * a.sz⟩ : Res) :: (pre ++ post), r.blk = b ∧ r.lo ≤ o ∧ o + v.t.sz ≤ r.hi := by
              rcases hin with ⟨h1, h2, h3⟩ | ⟨r, hr, h⟩
              · exact ⟨⟨bb, oo, oo + cap * a.sz⟩, by simp, h1.symm, by simp; omega, by simp; omega⟩
              · exact ⟨r, by simp at hr ⊢; rcases hr with h | h <;> simp [h], h⟩
            have hbb : ∃ r ∈ (⟨bb, oo, oo + cap * a.sz⟩ : Res) :: (pre ++ post), r.blk = b := by
              obtain ⟨r, hr, h, _⟩ := hbr
              exact ⟨r, hr, h⟩
            refine ⟨b, o, d1, f, ⟨bb, oo, oo + cap * a.sz⟩ :: (f1 ++ pre), post ++ f2, rfl, hd1, hr1, by simp, hsp1, .inr ?_, fun G' X w' c1' f' hG hs hXG hXc hc1' hr1' => ?_⟩
            · obtain ⟨r, hr, h⟩ := hbr
              exact ⟨r, by simp at hr ⊢; rcases hr with h | h | h <;> simp [h], h⟩
            · obtain ⟨ck', hck', hrk'⟩ := hupd G' X w' c1' f' hG hs hXG (fun b' i hx => (hXc b' i hx).imp id (fun h => ⟨fun e => h.2 ⟨⟨bb, oo, oo + cap * a.sz⟩, by simp, e.symm⟩, fun ⟨r, hr, e⟩ => h.2 ⟨r, by simp at hr ⊢; rcases hr with h | h | h <;> simp [h], e⟩⟩)) hc1' hr1'
              rw [hqm] at hrk'
              have b0out : ∀ j, ¬ X b0 j := by
                intro j hX
                rcases hXc _ _ hX with (⟨h1, _⟩ | ⟨r, hr, h⟩) | ⟨hn, _⟩
                · obtain ⟨r, hr, h2⟩ := hbb
                  exact hb0 r (by simp at hr ⊢; rcases hr with h | h | h <;> simp [h]) (h2.trans h1.symm)
                · exact hb0 r (by simp [hr]) h
                · exact hn rfl
              refine ⟨_, hs.cellsAt hc (fun j hj => by rw [add_mk]; exact b0out _), .inr ⟨bb, oo, cap, f1 ++ (pre ++ (f' ++ post) ++ f2), by simp, by simpa using hlc, by simp, hs.span hspb, ?_⟩⟩
              refine hupdL (rep G' w' a m) X w' q.2 ck' (pre ++ (f' ++ post)) hs (fun j hX => ?_) (fun y c g hg' hy => ?_) hck' hrk'
              · rcases hXc _ _ hX with (⟨h1, h2, h3⟩ | ⟨r, hr, h⟩) | ⟨_, hn⟩
                · rcases hin with ⟨_, h5, h6⟩ | ⟨r, hr, h4, _⟩
                  · exact ⟨by omega, by omega⟩
                  · exact absurd (h1.trans h4.symm) (nd'.2 r (by simp at hr ⊢; rcases hr with h | h <;> simp [h]))
                · exact absurd h.symm (nd'.2 r (by simp [hr]))
                · exact absurd ⟨⟨bb, oo, oo + cap * a.sz⟩, by simp, rfl⟩ hn
              · refine rep_frame hs hG hXG _ _ _ _ _ (fun r hr j hX => ?_) hy
                have hrr := hg' r hr
                have hrf : r.blk ≠ bb := (nd'.2 r (by simp at hrr ⊢; rcases hrr with h | h <;> simp [h])).symm
                have hne : ∀ z ∈ pre ++ (f ++ post), r.blk ≠ z.blk := by
                  intro z hz
                  rcases List.mem_append.1 hrr with h | h
                  · exact n12 r h z (by simp at hz ⊢; rcases hz with h | h | h <;> simp [h])
                  · exact (nk2 z hz r h).symm
                rcases hXc _ _ hX with (⟨h1, _⟩ | ⟨z, hz, h⟩) | ⟨_, hn⟩
                · obtain ⟨z, hz, h2⟩ := hbb
                  rcases List.mem_cons.1 hz with rfl | hz
                  · exact hrf (h1.trans h2.symm)
                  · exact hne z (by simp at hz ⊢; rcases hz with h | h <;> simp [h]) (h1.trans h2.symm)
                · exact hne z (by simp [hz]) h.symm
                · exact hn ⟨r, by simp at hrr ⊢; rcases hrr with h | h <;> simp [h], rfl⟩
        | _ => simp [setP] at hset
      | _ => simp [getP] at hget
    | der =>
      cases t with
      | ptr a =>
        cases m with
        | o m =>
          simp only [getP] at hget
          simp only [setP, Option.map_eq_some_iff] at hset
          obtain ⟨q, hset, rfl⟩ := hset
          obtain ⟨y, bb, oo, cc, fs, rfl, rfl, rfl, hspb, hcc, hr⟩ := hr
          simp only [Option.getD_some] at hget hset
          simp only [walkA, cell_of hc] at hwalk
          have nd' := List.pairwise_cons.1 nd
          have hbb0 : bb ≠ b0 := hb0 ⟨bb, oo, oo + a.sz⟩ (by simp)
          obtain ⟨b, o, d1, f, pre, post, rfl, hd1, hr1, rfl, hsp1, hin, hupd⟩ := ih a m y bb oo cc fs v v' ad q hcc hr nd'.2
              (fun r hr => (nd'.1 r hr).symm) (hgf ⟨bb, oo, oo + a.sz⟩ (by simp)) (fun r hr => hgf r (by simp [hr])) hspb hget hwalk ht hset
          have hbr : ∃ r ∈ (⟨bb, oo, oo + a.sz⟩ : Res) :: (pre ++ post), r.blk = b ∧ r.lo ≤ o ∧ o + v.t.sz ≤ r.hi := by
            rcases hin with ⟨h1, h2, h3⟩ | ⟨r, hr, h⟩
            · exact ⟨⟨bb, oo, oo + a.sz⟩, by simp, h1.symm, by simpa using h2, by simpa using h3⟩
            · exact ⟨r, by simp at hr ⊢; rcases hr with h | h <;> simp [h], h⟩
          have hbb : ∃ r ∈ (⟨bb, oo, oo + a.sz⟩ : Res) :: (pre ++ post), r.blk = b := by
            obtain ⟨r, hr, h, _⟩ := hbr
            exact ⟨r, hr, h⟩
          refine ⟨b, o, d1, f, ⟨bb, oo, oo + a.sz⟩ :: pre, post, rfl, hd1, hr1, by simp, hsp1, .inr ?_, fun G' X w' c1' f' hG hs hXG hXc hc1' hr1' => ?_⟩
          · obtain ⟨r, hr, h⟩ := hbr
            exact ⟨r, by simp at hr ⊢; rcases hr with h | h | h <;> simp [h], h⟩
          · obtain ⟨ck', hck', hrk'⟩ := hupd G' X w' c1' f' hG hs hXG (fun b' i hx => (hXc b' i hx).imp id (fun h => ⟨fun e => h.2 ⟨⟨bb, oo, oo + a.sz⟩, by simp, e.symm⟩, fun ⟨r, hr, e⟩ => h.2 ⟨r, by simp at hr ⊢; rcases hr with h | h | h <;> simp [h], e⟩⟩)) hc1' hr1'
            have b0out : ∀ j, ¬ X b0 j := by
              intro j hX
              rcases hXc _ _ hX with (⟨h1, _⟩ | ⟨r, hr, h⟩) | ⟨hn, _⟩
              · obtain ⟨r, hr, h2⟩ := hbb
                exact hb0 r (by simp at hr ⊢; rcases hr with h | h | h <;> simp [h]) (h2.trans h1.symm)
              · exact hb0 r (by simp [hr]) h
              · exact hn rfl
            exact ⟨_, hs.cellsAt hc (fun j hj => by rw [add_mk]; exact b0out _), q.2, bb, oo, ck', pre ++ (f' ++ post), rfl, rfl, by simp, hs.span hspb, hck', hrk'⟩
        | _ => simp [setP] at hset
      | _ => simp [getP] at hget

end Go.VL

namespace Go.VL

/-- a place that is looked at: what lies there; and as long as nothing that the path meets is turned it leads there -/
theorem readA {G : Nat → Prop} {w : World} : ∀ (p : List Step) (t : Ty) (m : Md) (x : t.den) (ad0 : Addr) (c : List Value) (fp : List Res) (v : TV) (ad : Addr),
    cellsAt w ad0 c → rep G w t m x c fp → getP p t m x = some v → walkA w p t ad0 = some ad →
    ∃ c1 f, cellsAt w ad c1 ∧ rep G w v.t v.m v.x c1 f ∧ (∀ r ∈ f, r ∈ fp) ∧ (ad.block = ad0.block ∨ G ad.block ∨ blks fp ad.block) ∧
      ∀ X w', Same X w w' → (∀ i, ¬ X ad0.block i) → (∀ b i, X b i → ¬ G b ∧ ¬ blks fp b) → walkA w' p t ad0 = some ad := by
  intro p
  induction p with
  | nil =>
    intro t m x ad0 c fp v ad hc hr hget hwalk
    simp only [getP, Option.some.injEq] at hget
    subst hget
    simp only [walkA, Option.some.injEq] at hwalk
    subst hwalk
    exact ⟨c, fp, hc, hr, fun _ h => h, .inl rfl, fun _ _ _ _ _ => rfl⟩
  | cons s p ih =>
    intro t m x ad0 c fp v ad hc hr hget hwalk
    cases s with
    | fst =>
      cases t with
      | pair a bt =>
        obtain ⟨ca, cb, fa, fb, ha, hb, rfl, rfl⟩ := hr
        simp only [getP] at hget
        simp only [walkA] at hwalk
        obtain ⟨c1, f, h1, h2, h3, h4, h5⟩ := ih a m.l x.1 ad0 ca fa v ad (cellsAt_append.1 hc).1 ha hget hwalk
        refine ⟨c1, f, h1, h2, fun r hr => by simp [h3 r hr], h4.imp id (·.imp id fun ⟨r, hr, h⟩ => ⟨r, by simp [hr], h⟩), fun X w' hs hx hX => ?_⟩
        exact h5 X w' hs hx (fun b i h => ⟨(hX b i h).1, fun ⟨r, hr, h'⟩ => (hX b i h).2 ⟨r, by simp [hr], h'⟩⟩)
      | _ => simp [getP] at hget
    | snd =>
      cases t with
      | pair a bt =>
        obtain ⟨ca, cb, fa, fb, ha, hb, rfl, rfl⟩ := hr
        simp only [getP] at hget
        simp only [walkA] at hwalk
        have la := rep_len _ _ _ _ _ ha
        obtain ⟨c1, f, h1, h2, h3, h4, h5⟩ := ih bt m.r x.2 (ad0.add a.sz) cb fb v ad (la ▸ (cellsAt_append.1 hc).2) hb hget hwalk
        rw [add_block] at h4
        refine ⟨c1, f, h1, h2, fun r hr => by simp [h3 r hr], h4.imp id (·.imp id fun ⟨r, hr, h⟩ => ⟨r, by simp [hr], h⟩), fun X w' hs hx hX => ?_⟩
        exact h5 X w' hs (by rw [add_block]; exact hx) (fun b i h => ⟨(hX b i h).1, fun ⟨r, hr, h'⟩ => (hX b i h).2 ⟨r, by simp [hr], h'⟩⟩)
      | _ => simp [getP] at hget
    | idx i =>
      cases t with
      | arr n a =>
        obtain ⟨hn, hr⟩ := hr
        simp only [getP] at hget
        simp only [walkA] at hwalk
        split at hwalk
        case isFalse => cases hwalk
        case isTrue hi =>
        have hk : i.toNat < x.length := by rw [hn]; exact hi
        have hx : x.getD i.toNat a.zero = x[i.toNat] := by simp [List.getD, hk]
        rw [hx] at hget
        obtain ⟨c1, ck, c2, f1, fk, f2, rfl, rfl, hrk, hl1, -⟩ := repA_split (sz := a.sz) (fun x c f h => rep_len _ _ _ _ _ h) x c fp i.toNat hk hr
        obtain ⟨hc1, hc2⟩ := cellsAt_append.1 hc
        obtain ⟨hck, hc2⟩ := cellsAt_append.1 hc2
        rw [hl1] at hck
        obtain ⟨d1, f, h1, h2, h3, h4, h5⟩ := ih a m.e x[i.toNat] (ad0.add (i.toNat * a.sz)) ck fk v ad hck hrk hget hwalk
        rw [add_block] at h4
        refine ⟨d1, f, h1, h2, fun r hr => by simp [h3 r hr], h4.imp id (·.imp id fun ⟨r, hr, h⟩ => ⟨r, by simp [hr], h⟩), fun X w' hs hx hX => ?_⟩
        simp only [walkA, hi, if_true]
        exact h5 X w' hs (by rw [add_block]; exact hx) (fun b i h => ⟨(hX b i h).1, fun ⟨r, hr, h'⟩ => (hX b i h).2 ⟨r, by simp [hr], h'⟩⟩)
      | list a =>
        have shared : ∀ A cap, c = [Value.slice A x.length cap] → (∀ i (h : i < x.length), ∃ (ad : Addr) (c : List Value), A = some ad ∧ G ad.block ∧ cellsAt w (ad.add (i * a.sz)) c ∧ rep G w a .s x[i] c []) →
            getP p a .s (x.getD i.toNat a.zero) = some v →
            ∃ c1 f, cellsAt w ad c1 ∧ rep G w v.t v.m v.x c1 f ∧ (∀ r ∈ f, r ∈ fp) ∧ (ad.block = ad0.block ∨ G ad.block ∨ blks fp ad.block) ∧
              ∀ X w', Same X w w' → (∀ i, ¬ X ad0.block i) → (∀ b i, X b i → ¬ G b ∧ ¬ blks fp b) → walkA w' (.idx i :: p) (.list a) ad0 = some ad := by
          rintro A cap rfl hh hget
          have h0 : w.cell? ad0 = some (.slice A x.length cap) := by
            have := hc 0 _ rfl
            simpa [Addr.add] using this
          cases A with
          | none => simp [walkA, h0] at hwalk
          | some A =>
            simp only [walkA, h0] at hwalk
            split at hwalk
            case isFalse => cases hwalk
            case isTrue hk =>
            obtain ⟨ad1, c1, ha, hg, hc1, hr1⟩ := hh i.toNat hk
            cases ha
            have hx : x.getD i.toNat a.zero = x[i.toNat] := by simp [List.getD, hk]
            rw [hx] at hget
            obtain ⟨d1, f, h1, h2, h3, h4, h5⟩ := ih a .s x[i.toNat] (A.add (i.toNat * a.sz)) c1 [] v ad hc1 hr1 hget hwalk
            rw [add_block] at h4
            refine ⟨d1, f, h1, h2, fun r hr => absurd (h3 r hr) (by simp), .inr (.inl ?_), fun X w' hs hx hX => ?_⟩
            · rcases h4 with h | h | ⟨r, hr, _⟩
              · rw [h]; exact hg
              · exact h
              · simp at hr
            · have h0' : w'.cell? ad0 = some (.slice (some A) x.length cap) := hs.cellSome h0 (hx _)
              simp only [walkA, h0', hk, if_true]
              exact h5 X w' hs (fun i h => (hX _ _ h).1 (by rw [add_block]; exact hg)) (fun b i h => ⟨(hX b i h).1, fun ⟨r, hr, _⟩ => by simp at hr⟩)
        cases m with
        | s => obtain ⟨⟨A, cap, rfl, _, hh⟩, rfl⟩ := hr; exact shared A cap rfl hh (by simpa only [getP] using hget)
        | h => simp [getP] at hget
        | p _ _ => simp [getP] at hget
        | o m =>
          simp only [getP] at hget
          rcases hr with ⟨rfl, rfl, rfl⟩ | ⟨bb, oo, cap, fs, rfl, hlc, rfl, hspb, hr⟩
          · have h0 : w.cell? ad0 = some (.slice none 0 0) := by
              have := hc 0 _ rfl
              simpa [Addr.add] using this
            simp [walkA, h0] at hwalk
          · have h0 : w.cell? ad0 = some (.slice (some ⟨bb, oo, none⟩) x.length cap) := by
              have := hc 0 _ rfl
              simpa [Addr.add] using this
            simp only [walkA, h0] at hwalk
            split at hwalk
            case isFalse => cases hwalk
            case isTrue hk =>
            have hx : x.getD i.toNat a.zero = x[i.toNat] := by simp [List.getD, hk]
            rw [hx] at hget
            obtain ⟨ck, f1, fk, f2, rfl, hck, hrk, -⟩ := repL_split (sz := a.sz) (fun x c f h => rep_len _ _ _ _ _ h) x oo fs i.toNat hk hr
            obtain ⟨d1, f, h1, h2, h3, h4, h5⟩ := ih a m x[i.toNat] ((⟨bb, oo, none⟩ : Addr).add (i.toNat * a.sz)) ck fk v ad (by rw [add_mk]; exact hck) hrk hget hwalk
            rw [add_block] at h4
            refine ⟨d1, f, h1, h2, fun r hr => by simp [h3 r hr], .inr ?_, fun X w' hs hx hX => ?_⟩
            · rcases h4 with h | h | ⟨r, hr, h⟩
              · exact .inr ⟨⟨bb, oo, oo + cap * a.sz⟩, by simp, h.symm⟩
              · exact .inl h
              · exact .inr ⟨r, by simp [hr], h⟩
            · have h0' : w'.cell? ad0 = some (.slice (some ⟨bb, oo, none⟩) x.length cap) := hs.cellSome h0 (hx _)
              simp only [walkA, h0', hk, if_true]
              exact h5 X w' hs (fun i h => (hX _ _ h).2 ⟨⟨bb, oo, oo + cap * a.sz⟩, by simp, by rw [add_block]⟩) (fun b i h => ⟨(hX b i h).1, fun ⟨r, hr, h'⟩ => (hX b i h).2 ⟨r, by simp [hr], h'⟩⟩)
      | _ => simp [getP] at hget
    | der =>
      cases t with
      | ptr a =>
        cases m with
        | o m =>
          simp only [getP] at hget
          obtain ⟨y, bb, oo, cc, fs, rfl, rfl, rfl, hspb, hcc, hr⟩ := hr
          simp only [Option.getD_some] at hget
          have h0 : w.cell? ad0 = some (.pointer (some ⟨bb, oo, none⟩)) := by
            have := hc 0 _ rfl
            simpa [Addr.add] using this
          simp only [walkA, h0] at hwalk
          obtain ⟨d1, f, h1, h2, h3, h4, h5⟩ := ih a m y ⟨bb, oo, none⟩ cc fs v ad hcc hr hget hwalk
          refine ⟨d1, f, h1, h2, fun r hr => by simp [h3 r hr], .inr ?_, fun X w' hs hx hX => ?_⟩
          · rcases h4 with h | h | ⟨r, hr, h⟩
            · exact .inr ⟨⟨bb, oo, oo + a.sz⟩, by simp, h.symm⟩
            · exact .inl h
            · exact .inr ⟨r, by simp [hr], h⟩
          · have h0' : w'.cell? ad0 = some (.pointer (some ⟨bb, oo, none⟩)) := hs.cellSome h0 (hx _)
            simp only [walkA, h0']
            exact h5 X w' hs (fun i h => (hX _ _ h).2 ⟨⟨bb, oo, oo + a.sz⟩, by simp, rfl⟩) (fun b i h => ⟨(hX b i h).1, fun ⟨r, hr, h'⟩ => (hX b i h).2 ⟨r, by simp [hr], h'⟩⟩)
        | _ => simp [getP] at hget
      | _ => simp [getP] at hget

end Go.VL

namespace Go.VL

/-- where the place of a path lies: in the cells that it starts from, or in a block of its own -/
theorem placeIn {G : Nat → Prop} {w : World} : ∀ (p : List Step) (t : Ty) (m : Md) (x : t.den) (b0 o0 : Nat) (c : List Value) (fp : List Res) (v v' : TV) (ad : Addr) (r2 : Md × t.den),
    cellsAt w ⟨b0, o0, none⟩ c → rep G w t m x c fp → getP p t m x = some v → walkA w p t ⟨b0, o0, none⟩ = some ad → setP p t m x v' = some r2 →
    (ad.block = b0 ∧ o0 ≤ ad.off ∧ ad.off + v.t.sz ≤ o0 + t.sz) ∨ blks fp ad.block := by
  intro p
  induction p with
  | nil =>
    intro t m x b0 o0 c fp v v' ad r2 hc hr hget hwalk hset
    simp only [getP, Option.some.injEq] at hget
    subst hget
    simp only [walkA, Option.some.injEq] at hwalk
    subst hwalk
    exact .inl ⟨rfl, Nat.le_refl _, Nat.le_refl _⟩
  | cons s p ih =>
    intro t m x b0 o0 c fp v v' ad r2 hc hr hget hwalk hset
    cases s with
    | fst =>
      cases t with
      | pair a bt =>
        obtain ⟨ca, cb, fa, fb, ha, hb, rfl, rfl⟩ := hr
        simp only [getP] at hget
        simp only [walkA] at hwalk
        simp only [setP, Option.map_eq_some_iff] at hset
        obtain ⟨q, hset, rfl⟩ := hset
        rcases ih a m.l x.1 b0 o0 ca fa v v' ad q (cellsAt_append.1 hc).1 ha hget hwalk hset with ⟨h1, h2, h3⟩ | ⟨r, hr, h⟩
        · exact .inl ⟨h1, h2, by simp only [Ty.sz]; omega⟩
        · exact .inr ⟨r, by simp [hr], h⟩
      | _ => simp [getP] at hget
    | snd =>
      cases t with
      | pair a bt =>
        obtain ⟨ca, cb, fa, fb, ha, hb, rfl, rfl⟩ := hr
        simp only [getP] at hget
        simp only [walkA] at hwalk
        simp only [setP, Option.map_eq_some_iff] at hset
        obtain ⟨q, hset, rfl⟩ := hset
        have hcb := (cellsAt_append.1 hc).2
        rw [rep_len _ _ _ _ _ ha, add_mk] at hcb
        rw [add_mk] at hwalk
        rcases ih bt m.r x.2 b0 (o0 + a.sz) cb fb v v' ad q hcb hb hget hwalk hset with ⟨h1, h2, h3⟩ | ⟨r, hr, h⟩
        · exact .inl ⟨h1, by omega, by simp only [Ty.sz]; omega⟩
        · exact .inr ⟨r, by simp [hr], h⟩
      | _ => simp [getP] at hget
    | idx i =>
      cases t with
      | arr n a =>
        obtain ⟨hn, hr⟩ := hr
        simp only [getP] at hget
        simp only [walkA] at hwalk
        split at hwalk
        case isFalse => cases hwalk
        case isTrue hi =>
        have hk : i.toNat < x.length := by rw [hn]; exact hi
        simp only [setP, Option.bind_eq_some_iff] at hset
        obtain ⟨q, hset, hq⟩ := hset
        have hx : x.getD i.toNat a.zero = x[i.toNat] := by simp [List.getD, hk]
        rw [hx] at hget hset
        obtain ⟨c1, ck, c2, f1, fk, f2, rfl, rfl, hrk, hl1, -⟩ := repA_split (sz := a.sz) (fun x c f h => rep_len _ _ _ _ _ h) x c fp i.toNat hk hr
        have hck := (cellsAt_append.1 (cellsAt_append.1 hc).2).1
        rw [hl1, add_mk] at hck
        rw [add_mk] at hwalk
        have hle : i.toNat * a.sz + a.sz ≤ n * a.sz := by
          have : (i.toNat + 1) * a.sz ≤ n * a.sz := Nat.mul_le_mul_right _ hi
          rwa [Nat.add_mul, Nat.one_mul] at this
        rcases ih a m.e x[i.toNat] b0 (o0 + i.toNat * a.sz) ck fk v v' ad q hck hrk hget hwalk hset with ⟨h1, h2, h3⟩ | ⟨r, hr, h⟩
        · exact .inl ⟨h1, by omega, by simp only [Ty.sz]; omega⟩
        · exact .inr ⟨r, by simp [hr], h⟩
      | list a =>
        cases m with
        | o m =>
          simp only [getP] at hget
          simp only [setP, Option.bind_eq_some_iff] at hset
          obtain ⟨q, hset, hq⟩ := hset
          rcases hr with ⟨rfl, rfl, rfl⟩ | ⟨bb, oo, cap, fs, rfl, hlc, rfl, hspb, hr⟩
          · simp [walkA, cell_of hc] at hwalk
          · simp only [walkA, cell_of hc] at hwalk
            split at hwalk
            case isFalse => cases hwalk
            case isTrue hk =>
            have hx : x.getD i.toNat a.zero = x[i.toNat] := by simp [List.getD, hk]
            rw [hx] at hget hset
            obtain ⟨ck, f1, fk, f2, rfl, hck, hrk, -⟩ := repL_split (sz := a.sz) (fun x c f h => rep_len _ _ _ _ _ h) x oo fs i.toNat hk hr
            rw [add_mk] at hwalk
            rcases ih a m x[i.toNat] bb (oo + i.toNat * a.sz) ck fk v v' ad q hck hrk hget hwalk hset with ⟨h1, h2, h3⟩ | ⟨r, hr, h⟩
            · exact .inr ⟨⟨bb, oo, oo + cap * a.sz⟩, by simp, h1.symm⟩
            · exact .inr ⟨r, by simp [hr], h⟩
        | _ => simp [setP] at hset
      | _ => simp [getP] at hget
    | der =>
      cases t with
      | ptr a =>
        cases m with
        | o m =>
          simp only [getP] at hget
          simp only [setP, Option.map_eq_some_iff] at hset
          obtain ⟨q, hset, rfl⟩ := hset
          obtain ⟨y, bb, oo, cc, fs, rfl, rfl, rfl, hspb, hcc, hr⟩ := hr
          simp only [Option.getD_some] at hget hset
          simp only [walkA, cell_of hc] at hwalk
          rcases ih a m y bb oo cc fs v v' ad q hcc hr hget hwalk hset with ⟨h1, h2, h3⟩ | ⟨r, hr, h⟩
          · exact .inr ⟨⟨bb, oo, oo + a.sz⟩, by simp, h1.symm⟩
          · exact .inr ⟨r, by simp [hr], h⟩
        | _ => simp [setP] at hset
      | _ => simp [getP] at hget

/-- where nothing that a path meets is turned it leads to the same place, and what stands there if it is one cell -/
def Holds (w w' : World) (p : List Step) (t : Ty) (ad0 : Addr) (u : TV) (ad : Addr) : Prop :=
  walkA w' p t ad0 = some ad ∧ (u.t.single = true → ∀ v, w.cell? ad = some v → w'.cell? ad = some v)

theorem readW {G : Nat → Prop} {w w' : World} {X : Nat → Nat → Prop} (hs : Same X w w') (hXG : ∀ b i, X b i → ¬ G b) : ∀ (p : List Step) (t : Ty) (m : Md) (x : t.den) (ad0 : Addr) (c : List Value) (fp : List Res) (v : TV) (ad : Addr),
    cellsAt w ad0 c → rep G w t m x c fp → getP p t m x = some v → walkA w p t ad0 = some ad →
    (∀ j, j < t.sz → ¬ X ad0.block (ad0.add j).off) → (∀ b i, X b i → ¬ blks fp b) → Holds w w' p t ad0 v ad := by
  intro p
  induction p with
  | nil =>
    intro t m x ad0 c fp v ad hc hr hget hwalk hx hX
    simp only [getP, Option.some.injEq] at hget
    subst hget
    simp only [walkA, Option.some.injEq] at hwalk
    subst hwalk
    refine ⟨rfl, fun hsg u hu => hs.cellSome hu ?_⟩
    have := hx 0 (by cases t <;> simp_all [Ty.single, Ty.sz])
    simpa [Addr.add] using this
  | cons s p ih =>
    intro t m x ad0 c fp v ad hc hr hget hwalk hx hX
    cases s with
    | fst =>
      cases t with
      | pair a bt =>
        obtain ⟨ca, cb, fa, fb, ha, hb, rfl, rfl⟩ := hr
        simp only [getP] at hget
        simp only [walkA] at hwalk
        exact ih a m.l x.1 ad0 ca fa v ad (cellsAt_append.1 hc).1 ha hget hwalk (fun j hj => hx j (by simp only [Ty.sz]; omega)) (fun b i h ⟨r, hr, h'⟩ => hX b i h ⟨r, by simp [hr], h'⟩)
      | _ => simp [getP] at hget
    | snd =>
      cases t with
      | pair a bt =>
        obtain ⟨ca, cb, fa, fb, ha, hb, rfl, rfl⟩ := hr
        simp only [getP] at hget
        simp only [walkA] at hwalk
        have la := rep_len _ _ _ _ _ ha
        exact ih bt m.r x.2 (ad0.add a.sz) cb fb v ad (la ▸ (cellsAt_append.1 hc).2) hb hget hwalk (fun j hj => by
          rw [add_block, add_add]; exact hx _ (by simp only [Ty.sz]; omega)) (fun b i h ⟨r, hr, h'⟩ => hX b i h ⟨r, by simp [hr], h'⟩)
      | _ => simp [getP] at hget
    | idx i =>
      cases t with
      | arr n a =>
        obtain ⟨hn, hr⟩ := hr
        simp only [getP] at hget
        simp only [walkA] at hwalk
        split at hwalk
        case isFalse => cases hwalk
        case isTrue hi =>
        have hk : i.toNat < x.length := by rw [hn]; exact hi
        have hx' : x.getD i.toNat a.zero = x[i.toNat] := by simp [List.getD, hk]
        rw [hx'] at hget
        obtain ⟨c1, ck, c2, f1, fk, f2, rfl, rfl, hrk, hl1, -⟩ := repA_split (sz := a.sz) (fun x c f h => rep_len _ _ _ _ _ h) x c fp i.toNat hk hr
        have hck := (cellsAt_append.1 (cellsAt_append.1 hc).2).1
        rw [hl1] at hck
        have hle : i.toNat * a.sz + a.sz ≤ n * a.sz := by
          have : (i.toNat + 1) * a.sz ≤ n * a.sz := Nat.mul_le_mul_right _ hi
          rwa [Nat.add_mul, Nat.one_mul] at this
        obtain ⟨h1, h2⟩ := ih a m.e x[i.toNat] (ad0.add (i.toNat * a.sz)) ck fk v ad hck hrk hget hwalk (fun j hj => by
          rw [add_block, add_add]; exact hx _ (by simp only [Ty.sz]; omega)) (fun b i h ⟨r, hr, h'⟩ => hX b i h ⟨r, by simp [hr], h'⟩)
        exact ⟨by simp only [walkA, hi, if_true]; exact h1, h2⟩
      | list a =>
        have h0c : ∀ val, c = [val] → w.cell? ad0 = some val ∧ w'.cell? ad0 = some val := fun val e => by
          subst e
          have h := hc 0 _ rfl
          have hz : ad0.add 0 = ad0 := by simp [Addr.add]
          rw [hz] at h
          have hx0 := hx 0 (by simp [Ty.sz])
          rw [hz] at hx0
          exact ⟨h, hs.cellSome h hx0⟩
        have shared : ∀ A cap, c = [Value.slice A x.length cap] → (∀ i (h : i < x.length), ∃ (ad : Addr) (c : List Value), A = some ad ∧ G ad.block ∧ cellsAt w (ad.add (i * a.sz)) c ∧ rep G w a .s x[i] c []) →
            getP p a .s (x.getD i.toNat a.zero) = some v → Holds w w' (.idx i :: p) (.list a) ad0 v ad := by
          rintro A cap hcc hh hget
          obtain ⟨h0, h0'⟩ := h0c _ hcc
          cases A with
          | none => simp [walkA, h0] at hwalk
          | some A =>
            simp only [walkA, h0] at hwalk
            split at hwalk
            case isFalse => cases hwalk
            case isTrue hk =>
            obtain ⟨ad1, c1, ha, hg, hc1, hr1⟩ := hh i.toNat hk
            cases ha
            have hx' : x.getD i.toNat a.zero = x[i.toNat] := by simp [List.getD, hk]
            rw [hx'] at hget
            obtain ⟨h1, h2⟩ := ih a .s x[i.toNat] (A.add (i.toNat * a.sz)) c1 [] v ad hc1 hr1 hget hwalk (fun j _ h => hXG _ _ h (by rw [add_block]; exact hg)) (fun b i h ⟨r, hr, _⟩ => by simp at hr)
            exact ⟨by simp only [walkA, h0', hk, if_true]; exact h1, h2⟩
        cases m with
        | s => obtain ⟨⟨A, cap, hcc, _, hh⟩, rfl⟩ := hr; exact shared A cap hcc hh (by simpa only [getP] using hget)
        | h => simp [getP] at hget
        | p _ _ => simp [getP] at hget
        | o m =>
          simp only [getP] at hget
          rcases hr with ⟨rfl, hcc, rfl⟩ | ⟨bb, oo, cap, fs, hcc, hlc, rfl, hspb, hr⟩
          · obtain ⟨h0, h0'⟩ := h0c _ hcc
            simp [walkA, h0] at hwalk
          · obtain ⟨h0, h0'⟩ := h0c _ hcc
            simp only [walkA, h0] at hwalk
            split at hwalk
            case isFalse => cases hwalk
            case isTrue hk =>
            have hx' : x.getD i.toNat a.zero = x[i.toNat] := by simp [List.getD, hk]
            rw [hx'] at hget
            obtain ⟨ck, f1, fk, f2, rfl, hck, hrk, -⟩ := repL_split (sz := a.sz) (fun x c f h => rep_len _ _ _ _ _ h) x oo fs i.toNat hk hr
            obtain ⟨h1, h2⟩ := ih a m x[i.toNat] ((⟨bb, oo, none⟩ : Addr).add (i.toNat * a.sz)) ck fk v ad (by rw [add_mk]; exact hck) hrk hget hwalk
              (fun j _ h => hX _ _ h ⟨⟨bb, oo, oo + cap * a.sz⟩, by simp, by rw [add_block]⟩) (fun b i h ⟨r, hr, h'⟩ => hX b i h ⟨r, by simp [hr], h'⟩)
            exact ⟨by simp only [walkA, h0', hk, if_true]; exact h1, h2⟩
      | _ => simp [getP] at hget
    | der =>
      cases t with
      | ptr a =>
        cases m with
        | o m =>
          simp only [getP] at hget
          obtain ⟨y, bb, oo, cc, fs, rfl, rfl, rfl, hspb, hcc, hr⟩ := hr
          simp only [Option.getD_some] at hget
          have hz : ad0.add 0 = ad0 := by simp [Addr.add]
          have h0 : w.cell? ad0 = some (.pointer (some ⟨bb, oo, none⟩)) := by
            have := hc 0 _ rfl
            rwa [hz] at this
          have h0' : w'.cell? ad0 = some (.pointer (some ⟨bb, oo, none⟩)) := hs.cellSome h0 (by
            have := hx 0 (by simp [Ty.sz])
            rwa [hz] at this)
          simp only [walkA, h0] at hwalk
          obtain ⟨h1, h2⟩ := ih a m y ⟨bb, oo, none⟩ cc fs v ad hcc hr hget hwalk (fun j _ h => hX _ _ h ⟨⟨bb, oo, oo + a.sz⟩, by simp, rfl⟩) (fun b i h ⟨r, hr, h'⟩ => hX b i h ⟨r, by simp [hr], h'⟩)
          exact ⟨by simp only [walkA, h0']; exact h1, h2⟩
        | _ => simp [getP] at hget
      | _ => simp [getP] at hget

section
variable {α : Type} {R : α → List Value → List Res → Prop} {w : World} {sz b : Nat}
theorem repA_two (hlen : ∀ x c f, R x c f → c.length = sz) : ∀ (xs : List α) (cs : List Value) (fs : List Res) (i j : Nat) (hi : i < xs.length) (hj : j < xs.length), i ≠ j → repA R xs cs fs → ND fs →
    ∃ ci fi cj fj, R xs[i] ci fi ∧ R xs[j] cj fj ∧ (∀ r ∈ fi, r ∈ fs) ∧ (∀ r ∈ fj, r ∈ fs) ∧ ND fi ∧ Apart fi fj ∧
      ∀ b o, cellsAt w ⟨b, o, none⟩ cs → cellsAt w ⟨b, o + i * sz, none⟩ ci ∧ cellsAt w ⟨b, o + j * sz, none⟩ cj
  | [], _, _, i, _, hi, _, _, _, _ => absurd hi (by simp)
  | x :: xs, cs, fs, i, j, hi, hj, hij, h, nd => by
    obtain ⟨c1, c2, f1, f2, h1, h2, rfl, rfl⟩ := h
    obtain ⟨n1, n2, n12⟩ := ND.append.1 nd
    have shift : ∀ (b o : Nat), cellsAt w ⟨b, o, none⟩ (c1 ++ c2) → cellsAt w ⟨b, o, none⟩ c1 ∧ cellsAt w ⟨b, o + sz, none⟩ c2 := fun b o hc => by
      obtain ⟨k1, k2⟩ := cellsAt_append.1 hc
      rw [hlen _ _ _ h1, add_mk] at k2
      exact ⟨k1, k2⟩
    have tail : ∀ k (hk : k < xs.length), ∃ ck fk, R xs[k] ck fk ∧ (∀ r ∈ fk, r ∈ f2) ∧ ND fk ∧ ∀ b o, cellsAt w ⟨b, o, none⟩ c2 → cellsAt w ⟨b, o + k * sz, none⟩ ck := fun k hk => by
      obtain ⟨d1, ck, d2, g1, fk, g2, rfl, rfl, hrk, hl1, -⟩ := repA_split hlen xs c2 f2 k hk h2
      refine ⟨ck, fk, hrk, fun r hr => by simp [hr], (ND.append.1 (ND.append.1 n2).2.1).1, fun b o hc => ?_⟩
      have := (cellsAt_append.1 (cellsAt_append.1 hc).2).1
      rwa [hl1, add_mk] at this
    cases i with
    | zero =>
      cases j with
      | zero => exact absurd rfl hij
      | succ j =>
        obtain ⟨cj, fj, k1, k2, k3, k4⟩ := tail j (by simpa using hj)
        refine ⟨c1, f1, cj, fj, h1, k1, fun r hr => by simp [hr], fun r hr => by simp [k2 r hr], n1, fun r hr q hq => n12 r hr q (k2 q hq), fun b o hc => ?_⟩
        obtain ⟨s1, s2⟩ := shift b o hc
        refine ⟨by simpa using s1, ?_⟩
        have := k4 _ _ s2
        rwa [show o + (j + 1) * sz = o + sz + j * sz by rw [Nat.add_mul]; omega]
    | succ i =>
      cases j with
      | zero =>
        obtain ⟨ci, fi, k1, k2, k3, k4⟩ := tail i (by simpa using hi)
        refine ⟨ci, fi, c1, f1, k1, h1, fun r hr => by simp [k2 r hr], fun r hr => by simp [hr], k3, fun r hr q hq => (n12 q hq r (k2 r hr)).symm, fun b o hc => ?_⟩
        obtain ⟨s1, s2⟩ := shift b o hc
        refine ⟨?_, by simpa using s1⟩
        have := k4 _ _ s2
        rwa [show o + (i + 1) * sz = o + sz + i * sz by rw [Nat.add_mul]; omega]
      | succ j =>
        obtain ⟨ci, fi, cj, fj, k1, k2, k3, k4, k5, k6, k7⟩ := repA_two hlen xs c2 f2 i j (by simpa using hi) (by simpa using hj) (by omega) h2 n2
        refine ⟨ci, fi, cj, fj, k1, k2, fun r hr => by simp [k3 r hr], fun r hr => by simp [k4 r hr], k5, k6, fun b o hc => ?_⟩
        obtain ⟨s1, s2⟩ := shift b o hc
        have := k7 _ _ s2
        rwa [show o + (i + 1) * sz = o + sz + i * sz by rw [Nat.add_mul]; omega, show o + (j + 1) * sz = o + sz + j * sz by rw [Nat.add_mul]; omega]

theorem repL_two (hlen : ∀ x c f, R x c f → c.length = sz) : ∀ (xs : List α) (o : Nat) (fs : List Res) (i j : Nat) (hi : i < xs.length) (hj : j < xs.length), i ≠ j → repL R w sz b o xs fs → ND fs →
    ∃ ci fi cj fj, R xs[i] ci fi ∧ R xs[j] cj fj ∧ (∀ r ∈ fi, r ∈ fs) ∧ (∀ r ∈ fj, r ∈ fs) ∧ ND fi ∧ Apart fi fj ∧
      cellsAt w ⟨b, o + i * sz, none⟩ ci ∧ cellsAt w ⟨b, o + j * sz, none⟩ cj
  | [], _, _, i, _, hi, _, _, _, _ => absurd hi (by simp)
  | x :: xs, o, fs, i, j, hi, hj, hij, h, nd => by
    obtain ⟨c1, f1, f2, hc, h1, h2, rfl⟩ := h
    obtain ⟨n1, n2, n12⟩ := ND.append.1 nd
    have tail : ∀ k (hk : k < xs.length), ∃ ck fk, R xs[k] ck fk ∧ (∀ r ∈ fk, r ∈ f2) ∧ ND fk ∧ cellsAt w ⟨b, o + (k + 1) * sz, none⟩ ck := fun k hk => by
      obtain ⟨ck, g1, fk, g2, rfl, hck, hrk, -⟩ := repL_split hlen xs (o + sz) f2 k hk h2
      refine ⟨ck, fk, hrk, fun r hr => by simp [hr], (ND.append.1 (ND.append.1 n2).2.1).1, ?_⟩
      rwa [show o + (k + 1) * sz = o + sz + k * sz by rw [Nat.add_mul]; omega]
    cases i with
    | zero =>
      cases j with
      | zero => exact absurd rfl hij
      | succ j =>
        obtain ⟨cj, fj, k1, k2, k3, k4⟩ := tail j (by simpa using hj)
        exact ⟨c1, f1, cj, fj, h1, k1, fun r hr => by simp [hr], fun r hr => by simp [k2 r hr], n1, fun r hr q hq => n12 r hr q (k2 q hq), by simpa using hc, k4⟩
    | succ i =>
      cases j with
      | zero =>
        obtain ⟨ci, fi, k1, k2, k3, k4⟩ := tail i (by simpa using hi)
        exact ⟨ci, fi, c1, f1, k1, h1, fun r hr => by simp [k2 r hr], fun r hr => by simp [hr], k3, fun r hr q hq => (n12 q hq r (k2 r hr)).symm, k4, by simpa using hc⟩
      | succ j =>
        obtain ⟨ci, fi, cj, fj, k1, k2, k3, k4, k5, k6, k7, k8⟩ := repL_two hlen xs (o + sz) f2 i j (by simpa using hi) (by simpa using hj) (by omega) h2 n2
        refine ⟨ci, fi, cj, fj, k1, k2, fun r hr => by simp [k3 r hr], fun r hr => by simp [k4 r hr], k5, k6, ?_, ?_⟩
        · rwa [show o + (i + 1) * sz = o + sz + i * sz by rw [Nat.add_mul]; omega]
        · rwa [show o + (j + 1) * sz = o + sz + j * sz by rw [Nat.add_mul]; omega]
end

/-- what a value owns is told by its cells -/
theorem rep_uniq {G : Nat → Prop} {w : World} : ∀ (t : Ty) (m : Md) (x : t.den) (cs : List Value) (fp fp' : List Res), rep G w t m x cs fp → rep G w t m x cs fp' → fp = fp' := by
  intro t
  induction t with
  | int k => intro m x cs fp fp' h h'; rw [h.2, h'.2]
  | bool => intro m x cs fp fp' h h'; rw [h.2, h'.2]
  | str => intro m x cs fp fp' h h'; rw [h.2, h'.2]
  | unit => intro m x cs fp fp' h h'; rw [h.2, h'.2]
  | fn => intro m x cs fp fp' h h'; rw [h.2, h'.2]
  | pair a b iha ihb =>
    intro m x cs fp fp' h h'
    obtain ⟨c1, c2, f1, f2, h1, h2, rfl, rfl⟩ := h
    obtain ⟨d1, d2, g1, g2, k1, k2, he, rfl⟩ := h'
    have hl : c1.length = d1.length := by rw [rep_len _ _ _ _ _ h1, rep_len _ _ _ _ _ k1]
    obtain ⟨rfl, rfl⟩ := List.append_inj he hl
    rw [iha _ _ _ _ _ h1 k1, ihb _ _ _ _ _ h2 k2]
  | arr n a ih =>
    intro m x cs fp fp' h h'
    have : ∀ (xs : List a.den) cs fp fp', repA (rep G w a m.e) xs cs fp → repA (rep G w a m.e) xs cs fp' → fp = fp' := by
      intro xs
      induction xs with
      | nil => intro cs fp fp' h h'; rw [h.2, h'.2]
      | cons y ys ih2 =>
        intro cs fp fp' h h'
        obtain ⟨c1, c2, f1, f2, h1, h2, rfl, rfl⟩ := h
        obtain ⟨d1, d2, g1, g2, k1, k2, he, rfl⟩ := h'
        have hl : c1.length = d1.length := by rw [rep_len _ _ _ _ _ h1, rep_len _ _ _ _ _ k1]
        obtain ⟨rfl, rfl⟩ := List.append_inj he hl
        rw [ih _ _ _ _ _ h1 k1, ih2 _ _ _ h2 k2]
    exact this x cs fp fp' h.2 h'.2
  | list a ih =>
    intro m x cs fp fp' h h'
    cases m with
    | h => rw [h.2, h'.2]
    | s => rw [h.2, h'.2]
    | p _ _ => rw [h.2, h'.2]
    | o m =>
      have key : ∀ (b : Nat) (xs : List a.den) (o : Nat) (f f' : List Res), repL (rep G w a m) w a.sz b o xs f → repL (rep G w a m) w a.sz b o xs f' → f = f' := by
        intro b xs
        induction xs with
        | nil => intro o f f' h h'; exact h.trans h'.symm
        | cons y ys ih2 =>
          intro o f f' h h'
          obtain ⟨c, f1, f2, hc, h1, h2, rfl⟩ := h
          obtain ⟨d, g1, g2, kc, k1, k2, rfl⟩ := h'
          have hcd := cellsAt_inj hc kc (by rw [rep_len _ _ _ _ _ h1, rep_len _ _ _ _ _ k1])
          subst hcd
          rw [ih _ _ _ _ _ h1 k1, ih2 _ _ _ h2 k2]
      rcases h with ⟨_, rfl, rfl⟩ | ⟨b, o, cap, fs, rfl, _, rfl, _, hr⟩
      · rcases h' with ⟨_, _, rfl⟩ | ⟨b', o', cap', fs', he, _⟩
        · rfl
        · simp at he
      · rcases h' with ⟨_, he, _⟩ | ⟨b', o', cap', fs', he, _, rfl, _, hr'⟩
        · simp at he
        · simp only [List.cons.injEq, Value.slice.injEq, Option.some.injEq, Addr.mk.injEq, and_true, true_and] at he
          obtain ⟨⟨rfl, rfl⟩, rfl⟩ := he
          rw [key _ _ _ _ _ hr hr']
  | ptr a ih =>
    intro m x cs fp fp' h h'
    cases m with
    | h => rw [h.2, h'.2]
    | s => rw [h.2.2, h'.2.2]
    | p _ _ => rw [h.2.2, h'.2.2]
    | o m =>
      obtain ⟨y, b, o, c, f, rfl, rfl, rfl, _, hc, hr⟩ := h
      obtain ⟨y', b', o', c', f', hy, he, rfl, _, hc', hr'⟩ := h'
      cases hy
      simp only [List.cons.injEq, Value.pointer.injEq, Option.some.injEq, Addr.mk.injEq, and_true] at he
      obtain ⟨rfl, rfl⟩ := he
      have hcd := cellsAt_inj hc hc' (by rw [rep_len _ _ _ _ _ hr, rep_len _ _ _ _ _ hr'])
      subst hcd
      rw [ih _ _ _ _ _ hr hr']

/-- what a place owns is owned by what the path starts from -/
theorem place_sub {G : Nat → Prop} {w : World} {p : List Step} {t : Ty} {m : Md} {x : t.den} {ad0 : Addr} {c : List Value} {fp : List Res} {v : TV} {ad : Addr} {cv : List Value} {fv : List Res}
    (hc : cellsAt w ad0 c) (hr : rep G w t m x c fp) (hget : getP p t m x = some v) (hwalk : walkA w p t ad0 = some ad) (hcv : cellsAt w ad cv) (hrv : rep G w v.t v.m v.x cv fv) : ∀ r ∈ fv, r ∈ fp := by
  obtain ⟨c1, f1, k1, k2, k3, _, _⟩ := readA p t m x ad0 c fp v ad hc hr hget hwalk
  have := cellsAt_inj k1 hcv (by rw [rep_len _ _ _ _ _ k2, rep_len _ _ _ _ _ hrv])
  subst this
  rw [rep_uniq _ _ _ _ _ _ hrv k2]
  exact k3

/-- a store at one place leaves the paths that do not run through it -/
theorem walkA_keep {G : Nat → Prop} {w w' : World} {X : Nat → Nat → Prop} (hs : Same X w w') (hXG : ∀ b i, X b i → ¬ G b) : ∀ (p0 : List Step) (t : Ty) (m : Md) (x : t.den) (b0 o0 : Nat) (c : List Value) (fp : List Res) (v v' : TV) (a0 : Addr) (r2 : Md × t.den),
    cellsAt w ⟨b0, o0, none⟩ c → rep G w t m x c fp → ND fp → (∀ r ∈ fp, r.blk ≠ b0) → getP p0 t m x = some v → walkA w p0 t ⟨b0, o0, none⟩ = some a0 → setP p0 t m x v' = some r2 →
    ∀ (cv : List Value) (fv : List Res) (Out : Nat → Prop), cellsAt w a0 cv → rep G w v.t v.m v.x cv fv →
    (∀ b i, X b i → (b = a0.block ∧ a0.off ≤ i ∧ i < a0.off + v.t.sz) ∨ blks fv b ∨ Out b) → (∀ b, Out b → b ≠ b0 ∧ ∀ r ∈ fp, r.blk ≠ b) →
    ∀ (p : List Step) (u : TV) (ad : Addr), kills (pat p0) p = false → getP p t m x = some u → walkA w p t ⟨b0, o0, none⟩ = some ad → Holds w w' p t ⟨b0, o0, none⟩ u ad := by
  intro p0
  induction p0 with
  | nil => intro t m x b0 o0 c fp v v' a0 r2 _ _ _ _ _ _ _ cv fv Out _ _ _ _ p u ad hk; simp [pat, kills] at hk
  | cons s p0 ih =>
    intro t m x b0 o0 c fp v v' a0 r2 hc hr nd hb0 hget0 hwalk0 hset cv fv Out hcv hrv hXs hO p u ad hk hget hwalk
    cases s with
    | fst =>
      cases t with
      | pair a bt =>
        obtain ⟨ca, cb, fa, fb, ha, hb, rfl, rfl⟩ := hr
        obtain ⟨na, nb, nab⟩ := ND.append.1 nd
        obtain ⟨hca, hcb⟩ := cellsAt_append.1 hc
        have la := rep_len _ _ _ _ _ ha
        rw [la, add_mk] at hcb
        simp only [getP] at hget0
        simp only [walkA] at hwalk0
        simp only [setP, Option.map_eq_some_iff] at hset
        obtain ⟨q, hset, rfl⟩ := hset
        have hin := placeIn p0 a m.l x.1 b0 o0 ca fa v v' a0 q hca ha hget0 hwalk0 hset
        have hsub := place_sub hca ha hget0 hwalk0 hcv hrv
        cases p with
        | nil =>
          simp only [getP, Option.some.injEq] at hget
          subst hget
          exact ⟨hwalk, fun h => by simp [Ty.single] at h⟩
        | cons s2 p =>
          cases s2 <;> simp only [getP] at hget <;> try cases hget
          · simp only [walkA] at hwalk
            exact ih a m.l x.1 b0 o0 ca fa v v' a0 q hca ha na (fun r hr => hb0 r (by simp [hr])) hget0 hwalk0 hset cv fv Out hcv hrv hXs (fun b hb => ⟨(hO b hb).1, fun r hr => (hO b hb).2 r (by simp [hr])⟩) p u ad (by simpa [pat, kills] using hk) hget hwalk
          · simp only [walkA, add_mk] at hwalk
            obtain ⟨h1, h2⟩ := readW hs hXG p bt m.r x.2 ⟨b0, o0 + a.sz, none⟩ cb fb u ad hcb hb hget hwalk (fun j hj h => by
              rcases hXs _ _ h with ⟨e1, e2, e3⟩ | ⟨rv, hrv', ev⟩ | ho
              rotate_left
              · first | exact hb0 rv (by simp [hsub rv hrv']) ev | exact hb0 rv (k3 rv (hsub rv hrv')) ev | exact nd'.1 rv (k3 rv (hsub rv hrv')) ev.symm
              · first | exact (hO _ ho).1 rfl | exact (hO _ ho).2 ⟨bb, oo, oo + cap * a.sz⟩ (by simp) rfl
              rw [add_mk] at e2 e3
              simp only at e1 e2 e3
              rcases hin with ⟨h4, h5, h6⟩ | ⟨r, hr, h4⟩
              · omega
              · exact hb0 r (by simp [hr]) (h4.trans e1.symm)) (fun b i h ⟨r, hr, e⟩ => by
              rcases hXs _ _ h with ⟨e1, _, _⟩ | ⟨rv, hrv', ev⟩ | ho
              rotate_left
              · first | exact nab rv (hsub rv hrv') r hr (ev.trans e.symm) | exact nab r hr rv (hsub rv hrv') (e.trans ev.symm) | exact k6 rv (hsub rv hrv') r hr (ev.trans e.symm)
              · first | exact (hO _ ho).2 r (k4 r hr) e | exact (hO _ ho).2 r (List.mem_cons_of_mem _ (k4 r hr)) e | exact (hO _ ho).2 r (by simp [hr]) e
              rcases hin with ⟨h4, _⟩ | ⟨r', hr', h4⟩
              · exact hb0 r (by simp [hr]) (e.trans (e1.trans h4))
              · exact nab r' hr' r hr (h4.trans (e1.symm.trans e.symm)))
            exact ⟨by simp only [walkA, add_mk]; exact h1, h2⟩
      | _ => simp [getP] at hget0
    | snd =>
      cases t with
      | pair a bt =>
        obtain ⟨ca, cb, fa, fb, ha, hb, rfl, rfl⟩ := hr
        obtain ⟨na, nb, nab⟩ := ND.append.1 nd
        obtain ⟨hca, hcb⟩ := cellsAt_append.1 hc
        have la := rep_len _ _ _ _ _ ha
        rw [la, add_mk] at hcb
        simp only [getP] at hget0
        simp only [walkA, add_mk] at hwalk0
        simp only [setP, Option.map_eq_some_iff] at hset
        obtain ⟨q, hset, rfl⟩ := hset
        have hin := placeIn p0 bt m.r x.2 b0 (o0 + a.sz) cb fb v v' a0 q hcb hb hget0 hwalk0 hset
        have hsub := place_sub hcb hb hget0 hwalk0 hcv hrv
        cases p with
        | nil =>
          simp only [getP, Option.some.injEq] at hget
          subst hget
          exact ⟨hwalk, fun h => by simp [Ty.single] at h⟩
        | cons s2 p =>
          cases s2 <;> simp only [getP] at hget <;> try cases hget
          · simp only [walkA] at hwalk
            obtain ⟨h1, h2⟩ := readW hs hXG p a m.l x.1 ⟨b0, o0, none⟩ ca fa u ad hca ha hget hwalk (fun j hj h => by
              rcases hXs _ _ h with ⟨e1, e2, e3⟩ | ⟨rv, hrv', ev⟩ | ho
              rotate_left
              · first | exact hb0 rv (by simp [hsub rv hrv']) ev | exact hb0 rv (k3 rv (hsub rv hrv')) ev | exact nd'.1 rv (k3 rv (hsub rv hrv')) ev.symm
              · first | exact (hO _ ho).1 rfl | exact (hO _ ho).2 ⟨bb, oo, oo + cap * a.sz⟩ (by simp) rfl
              rw [add_mk] at e2 e3
              simp only at e1 e2 e3
              rcases hin with ⟨h4, h5, h6⟩ | ⟨r, hr, h4⟩
              · omega
              · exact hb0 r (by simp [hr]) (h4.trans e1.symm)) (fun b i h ⟨r, hr, e⟩ => by
              rcases hXs _ _ h with ⟨e1, _, _⟩ | ⟨rv, hrv', ev⟩ | ho
              rotate_left
              · first | exact nab rv (hsub rv hrv') r hr (ev.trans e.symm) | exact nab r hr rv (hsub rv hrv') (e.trans ev.symm) | exact k6 rv (hsub rv hrv') r hr (ev.trans e.symm)
              · first | exact (hO _ ho).2 r (k4 r hr) e | exact (hO _ ho).2 r (List.mem_cons_of_mem _ (k4 r hr)) e | exact (hO _ ho).2 r (by simp [hr]) e
              rcases hin with ⟨h4, _⟩ | ⟨r', hr', h4⟩
              · exact hb0 r (by simp [hr]) (e.trans (e1.trans h4))
              · exact nab r hr r' hr' (e.trans (e1.trans h4.symm)))
            exact ⟨by simp only [walkA]; exact h1, h2⟩
          · simp only [walkA, add_mk] at hwalk
            obtain ⟨h1, h2⟩ := ih bt m.r x.2 b0 (o0 + a.sz) cb fb v v' a0 q hcb hb nb (fun r hr => hb0 r (by simp [hr])) hget0 hwalk0 hset cv fv Out hcv hrv hXs (fun b hb => ⟨(hO b hb).1, fun r hr => (hO b hb).2 r (by simp [hr])⟩) p u ad (by simpa [pat, kills] using hk) hget hwalk
            exact ⟨by simp only [walkA, add_mk]; exact h1, h2⟩
      | _ => simp [getP] at hget0
    | idx i =>
      cases t with
      | arr n a =>
        obtain ⟨hn, hr⟩ := hr
        have lenR : ∀ (x : a.den) c f, rep G w a m.e x c f → c.length = a.sz := fun x c f h => rep_len _ _ _ _ _ h
        simp only [getP] at hget0
        simp only [walkA] at hwalk0
        split at hwalk0
        case isFalse => cases hwalk0
        case isTrue hi =>
        have hki : i.toNat < x.length := by rw [hn]; exact hi
        simp only [setP, Option.bind_eq_some_iff] at hset
        obtain ⟨q, hset, hq⟩ := hset
        have hx : x.getD i.toNat a.zero = x[i.toNat] := by simp [List.getD, hki]
        rw [hx] at hget0 hset
        rw [add_mk] at hwalk0
        cases p with
        | nil =>
          simp only [getP, Option.some.injEq] at hget
          subst hget
          exact ⟨hwalk, fun h => by simp [Ty.single] at h⟩
        | cons s2 p =>
          cases s2 <;> simp only [getP] at hget <;> try cases hget
          rename_i j
          simp only [walkA] at hwalk
          split at hwalk
          case isFalse => cases hwalk
          case isTrue hj =>
          rw [add_mk] at hwalk
          by_cases hij : i.toNat = j.toNat
          · obtain ⟨c1, ck, c2, f1, fk, f2, ec, ef, hrk, hl1, -⟩ := repA_split lenR x c fp i.toNat hki hr
            have hck : cellsAt w ⟨b0, o0 + i.toNat * a.sz, none⟩ ck := by
              rw [ec] at hc
              have := (cellsAt_append.1 (cellsAt_append.1 hc).2).1
              rwa [hl1, add_mk] at this
            have ndk : ND fk := by rw [ef] at nd; exact (ND.append.1 (ND.append.1 nd).2.1).1
            have hbk : ∀ r ∈ fk, r.blk ≠ b0 := fun r hr => hb0 r (by rw [ef]; simp [hr])
            rw [← hij] at hget hwalk
            rw [hx] at hget
            obtain ⟨h1, h2⟩ := ih a m.e x[i.toNat] b0 (o0 + i.toNat * a.sz) ck fk v v' a0 q hck hrk ndk hbk hget0 hwalk0 hset cv fv Out hcv hrv hXs (fun b hb => ⟨(hO b hb).1, fun r hr => (hO b hb).2 r (by rw [ef]; simp [hr])⟩) p u ad (by simpa [pat, kills] using hk) hget hwalk
            exact ⟨by simp only [walkA, add_mk, ← hij, hi, if_true]; exact h1, h2⟩
          · have hkj : j.toNat < x.length := by rw [hn]; exact hj
            have hxj : x.getD j.toNat a.zero = x[j.toNat] := by simp [List.getD, hkj]
            rw [hxj] at hget
            obtain ⟨ci, fi, cj, fj, k1, k2, k3, k4, k5, k6, k7⟩ := repA_two (w := w) lenR x c fp i.toNat j.toNat hki hkj hij hr nd
            obtain ⟨hci, hcj⟩ := k7 _ _ hc
            have hin := placeIn p0 a m.e x[i.toNat] b0 (o0 + i.toNat * a.sz) ci fi v v' a0 q hci k1 hget0 hwalk0 hset
            have hsub := place_sub hci k1 hget0 hwalk0 hcv hrv
            have hdis : i.toNat * a.sz + a.sz ≤ j.toNat * a.sz ∨ j.toNat * a.sz + a.sz ≤ i.toNat * a.sz := by
              rcases Nat.lt_or_ge i.toNat j.toNat with h | h
              · left; have := Nat.mul_le_mul_right a.sz h; simpa [Nat.succ_mul] using this
              · right; have := Nat.mul_le_mul_right a.sz (show j.toNat + 1 ≤ i.toNat by omega); simpa [Nat.succ_mul] using this
            obtain ⟨h1, h2⟩ := readW hs hXG p a m.e x[j.toNat] ⟨b0, o0 + j.toNat * a.sz, none⟩ cj fj u ad hcj k2 hget hwalk (fun l hl h => by
              rcases hXs _ _ h with ⟨e1, e2, e3⟩ | ⟨rv, hrv', ev⟩ | ho
              rotate_left
              · first | exact hb0 rv (by simp [hsub rv hrv']) ev | exact hb0 rv (k3 rv (hsub rv hrv')) ev | exact nd'.1 rv (k3 rv (hsub rv hrv')) ev.symm
              · first | exact (hO _ ho).1 rfl | exact (hO _ ho).2 ⟨bb, oo, oo + cap * a.sz⟩ (by simp) rfl
              rw [add_mk] at e2 e3
              simp only at e1 e2 e3
              rcases hin with ⟨h4, h5, h6⟩ | ⟨r, hr, h4⟩
              · omega
              · exact hb0 r (k3 r hr) (h4.trans e1.symm)) (fun b i h ⟨r, hr, e⟩ => by
              rcases hXs _ _ h with ⟨e1, _, _⟩ | ⟨rv, hrv', ev⟩ | ho
              rotate_left
              · first | exact nab rv (hsub rv hrv') r hr (ev.trans e.symm) | exact nab r hr rv (hsub rv hrv') (e.trans ev.symm) | exact k6 rv (hsub rv hrv') r hr (ev.trans e.symm)
              · first | exact (hO _ ho).2 r (k4 r hr) e | exact (hO _ ho).2 r (List.mem_cons_of_mem _ (k4 r hr)) e | exact (hO _ ho).2 r (by simp [hr]) e
              rcases hin with ⟨h4, _⟩ | ⟨r', hr', h4⟩
              · exact hb0 r (k4 r hr) (e.trans (e1.trans h4))
              · exact k6 r' hr' r hr (h4.trans (e1.symm.trans e.symm)))
            exact ⟨by simp only [walkA, hj, if_true, add_mk]; exact h1, h2⟩
      | list a =>
        cases m with
        | o m =>
          have lenR : ∀ (x : a.den) c f, rep G w a m x c f → c.length = a.sz := fun x c f h => rep_len _ _ _ _ _ h
          simp only [getP] at hget0
          simp only [setP, Option.bind_eq_some_iff] at hset
          obtain ⟨q, hset, hq⟩ := hset
          rcases hr with ⟨rfl, rfl, rfl⟩ | ⟨bb, oo, cap, fs, hcc, hlc, rfl, hspb, hr⟩
          · simp [walkA, cell_of hc] at hwalk0
          · have nd' := List.pairwise_cons.1 nd
            have hbb0 : bb ≠ b0 := hb0 ⟨bb, oo, oo + cap * a.sz⟩ (by simp)
            subst hcc
            have h0 := cell_of hc
            simp only [walkA, h0] at hwalk0
            split at hwalk0
            case isFalse => cases hwalk0
            case isTrue hki =>
            have hx : x.getD i.toNat a.zero = x[i.toNat] := by simp [List.getD, hki]
            rw [hx] at hget0 hset
            rw [add_mk] at hwalk0
            have out0 : ∀ k, ¬ X b0 k := fun k hX => by
              obtain ⟨ck, f1, fk, f2, ef, hck, hrk, -⟩ := repL_split lenR x oo fs i.toNat hki hr
              rcases hXs _ _ hX with hx0 | ⟨rv, hrv', ev⟩ | ho
              rotate_left
              · exact hb0 rv (by rw [ef]; simp [place_sub hck hrk hget0 hwalk0 hcv hrv rv hrv']) ev
              · exact (hO _ ho).1 rfl
              rcases placeIn p0 a m x[i.toNat] bb (oo + i.toNat * a.sz) ck fk v v' a0 q hck hrk hget0 hwalk0 hset with ⟨h4, _⟩ | ⟨r, hr', h4⟩
              · exact hbb0 (h4.symm.trans hx0.1.symm)
              · exact hb0 r (by rw [ef]; simp [hr']) (h4.trans hx0.1.symm)
            have h0' : w'.cell? ⟨b0, o0, none⟩ = some (.slice (some ⟨bb, oo, none⟩) x.length cap) := hs.cellSome h0 (out0 _)
            cases p with
            | nil =>
              simp only [getP, Option.some.injEq] at hget
              subst hget
              simp only [walkA, Option.some.injEq] at hwalk
              subst hwalk
              exact ⟨rfl, fun _ u hu => hs.cellSome hu (out0 _)⟩
            | cons s2 p =>
              cases s2 <;> simp only [getP] at hget <;> try cases hget
              rename_i j
              simp only [walkA, h0] at hwalk
              split at hwalk
              case isFalse => cases hwalk
              case isTrue hkj =>
              rw [add_mk] at hwalk
              by_cases hij : i.toNat = j.toNat
              · obtain ⟨ck, f1, fk, f2, ef, hck, hrk, -⟩ := repL_split lenR x oo fs i.toNat hki hr
                have ndk : ND fk := by have := nd'.2; rw [ef] at this; exact (ND.append.1 (ND.append.1 this).2.1).1
                have hbk : ∀ r ∈ fk, r.blk ≠ bb := fun r hr => (nd'.1 r (by rw [ef]; simp [hr])).symm
                rw [← hij] at hget hwalk
                rw [hx] at hget
                obtain ⟨h1, h2⟩ := ih a m x[i.toNat] bb (oo + i.toNat * a.sz) ck fk v v' a0 q hck hrk ndk hbk hget0 hwalk0 hset cv fv Out hcv hrv hXs (fun b hb => ⟨fun e => (hO b hb).2 ⟨bb, oo, oo + cap * a.sz⟩ (by simp) e.symm, fun r hr => (hO b hb).2 r (by rw [ef]; simp [hr])⟩) p u ad (by simpa [pat, kills] using hk) hget hwalk
                exact ⟨by simp only [walkA, h0', add_mk, ← hij, hki, if_true]; exact h1, h2⟩
              · have hxj : x.getD j.toNat a.zero = x[j.toNat] := by simp [List.getD, hkj]
                rw [hxj] at hget
                obtain ⟨ci, fi, cj, fj, k1, k2, k3, k4, k5, k6, hci, hcj⟩ := repL_two lenR x oo fs i.toNat j.toNat hki hkj hij hr nd'.2
                have hin := placeIn p0 a m x[i.toNat] bb (oo + i.toNat * a.sz) ci fi v v' a0 q hci k1 hget0 hwalk0 hset
                have hsub := place_sub hci k1 hget0 hwalk0 hcv hrv
                have hdis : i.toNat * a.sz + a.sz ≤ j.toNat * a.sz ∨ j.toNat * a.sz + a.sz ≤ i.toNat * a.sz := by
                  rcases Nat.lt_or_ge i.toNat j.toNat with h | h
                  · left; have := Nat.mul_le_mul_right a.sz h; simpa [Nat.succ_mul] using this
                  · right; have := Nat.mul_le_mul_right a.sz (show j.toNat + 1 ≤ i.toNat by omega); simpa [Nat.succ_mul] using this
                obtain ⟨h1, h2⟩ := readW hs hXG p a m x[j.toNat] ⟨bb, oo + j.toNat * a.sz, none⟩ cj fj u ad hcj k2 hget hwalk (fun l hl h => by
                  rcases hXs _ _ h with ⟨e1, e2, e3⟩ | ⟨rv, hrv', ev⟩ | ho
                  rotate_left
                  · first | exact hb0 rv (by simp [hsub rv hrv']) ev | exact hb0 rv (k3 rv (hsub rv hrv')) ev | exact nd'.1 rv (k3 rv (hsub rv hrv')) ev.symm
                  · first | exact (hO _ ho).1 rfl | exact (hO _ ho).2 ⟨bb, oo, oo + cap * a.sz⟩ (by simp) rfl
                  rw [add_mk] at e2 e3
                  simp only at e1 e2 e3
                  rcases hin with ⟨h4, h5, h6⟩ | ⟨r, hr, h4⟩
                  · omega
                  · exact nd'.1 r (k3 r hr) (e1.trans h4.symm)) (fun b i h ⟨r, hr, e⟩ => by
                  rcases hXs _ _ h with ⟨e1, _, _⟩ | ⟨rv, hrv', ev⟩ | ho
                  rotate_left
                  · first | exact nab rv (hsub rv hrv') r hr (ev.trans e.symm) | exact nab r hr rv (hsub rv hrv') (e.trans ev.symm) | exact k6 rv (hsub rv hrv') r hr (ev.trans e.symm)
                  · first | exact (hO _ ho).2 r (k4 r hr) e | exact (hO _ ho).2 r (List.mem_cons_of_mem _ (k4 r hr)) e | exact (hO _ ho).2 r (by simp [hr]) e
                  rcases hin with ⟨h4, _⟩ | ⟨r', hr', h4⟩
                  · exact nd'.1 r (k4 r hr) (h4.symm.trans (e1.symm.trans e.symm))
                  · exact k6 r' hr' r hr (h4.trans (e1.symm.trans e.symm)))
                exact ⟨by simp only [walkA, h0', hkj, if_true, add_mk]; exact h1, h2⟩
        | _ => simp [setP] at hset
      | _ => simp [getP] at hget0
    | der =>
      cases t with
      | ptr a =>
        cases m with
        | o m =>
          simp only [getP] at hget0
          simp only [setP, Option.map_eq_some_iff] at hset
          obtain ⟨q, hset, rfl⟩ := hset
          obtain ⟨y, bb, oo, cc, fs, rfl, rfl, rfl, hspb, hcc, hr⟩ := hr
          simp only [Option.getD_some] at hget0 hset
          have h0 := cell_of hc
          simp only [walkA, h0] at hwalk0
          have nd' := List.pairwise_cons.1 nd
          have hbb0 : bb ≠ b0 := hb0 ⟨bb, oo, oo + a.sz⟩ (by simp)
          have out0 : ∀ k, ¬ X b0 k := fun k hX => by
            rcases hXs _ _ hX with hx0 | ⟨rv, hrv', ev⟩ | ho
            rotate_left
            · exact hb0 rv (by simp [place_sub hcc hr hget0 hwalk0 hcv hrv rv hrv']) ev
            · exact (hO _ ho).1 rfl
            rcases placeIn p0 a m y bb oo cc fs v v' a0 q hcc hr hget0 hwalk0 hset with ⟨h4, _⟩ | ⟨r, hr', h4⟩
            · exact hbb0 (h4.symm.trans hx0.1.symm)
            · exact hb0 r (by simp [hr']) (h4.trans hx0.1.symm)
          have h0' : w'.cell? ⟨b0, o0, none⟩ = some (.pointer (some ⟨bb, oo, none⟩)) := hs.cellSome h0 (out0 _)
          cases p with
          | nil =>
            simp only [getP, Option.some.injEq] at hget
            subst hget
            simp only [walkA, Option.some.injEq] at hwalk
            subst hwalk
            exact ⟨rfl, fun _ u hu => hs.cellSome hu (out0 _)⟩
          | cons s2 p =>
            cases s2 <;> simp only [getP] at hget <;> try cases hget
            simp only [Option.getD_some] at hget
            simp only [walkA, h0] at hwalk
            obtain ⟨h1, h2⟩ := ih a m y bb oo cc fs v v' a0 q hcc hr nd'.2 (fun r hr => (nd'.1 r hr).symm) hget0 hwalk0 hset cv fv Out hcv hrv hXs (fun b hb => ⟨fun e => (hO b hb).2 ⟨bb, oo, oo + a.sz⟩ (by simp) e.symm, fun r hr => (hO b hb).2 r (by simp [hr])⟩) p u ad (by simpa [pat, kills] using hk) hget hwalk
            exact ⟨by simp only [walkA, h0']; exact h1, h2⟩
        | _ => simp [setP] at hset
      | _ => simp [getP] at hget0

/-- the same from a value -/
theorem walkV_keep {G : Nat → Prop} {w w' : World} {X : Nat → Nat → Prop} (hs : Same X w w') (hXG : ∀ b i, X b i → ¬ G b) (p0 : List Step) (t : Ty) (m : Md) (x : t.den) (c : List Value) (fp : List Res) (v v' : TV) (a0 : Addr) (r2 : Md × t.den)
    (hr : rep G w t m x c fp) (nd : ND fp) (hget0 : getP p0 t m x = some v) (hwalk0 : walkV w p0 t c = some a0) (hset : setP p0 t m x v' = some r2)
    (cv : List Value) (fv : List Res) (Out : Nat → Prop) (hcv : cellsAt w a0 cv) (hrv : rep G w v.t v.m v.x cv fv)
    (hXs : ∀ b i, X b i → (b = a0.block ∧ a0.off ≤ i ∧ i < a0.off + v.t.sz) ∨ blks fv b ∨ Out b) (hO : ∀ b, Out b → ∀ r ∈ fp, r.blk ≠ b)
    (p : List Step) (u : TV) (ad : Addr) (hk : kills (pat p0) p = false) (hget : getP p t m x = some u) (hwalk : walkV w p t c = some ad) :
    walkV w' p t c = some ad ∧ (u.t.single = true → ∀ v, w.cell? ad = some v → w'.cell? ad = some v) := by
  cases p0 with
  | nil => simp [pat, kills] at hk
  | cons s p0 =>
    cases s with
    | fst => simp [walkV] at hwalk0
    | snd => simp [walkV] at hwalk0
    | idx i =>
      cases t with
      | list a =>
        cases m with
        | o m =>
          have lenR : ∀ (x : a.den) c f, rep G w a m x c f → c.length = a.sz := fun x c f h => rep_len _ _ _ _ _ h
          simp only [getP] at hget0
          simp only [setP, Option.bind_eq_some_iff] at hset
          obtain ⟨q, hset, hq⟩ := hset
          rcases hr with ⟨rfl, rfl, rfl⟩ | ⟨bb, oo, cap, fs, hcc, hlc, rfl, hspb, hr⟩
          · simp [walkV] at hwalk0
          · have nd' := List.pairwise_cons.1 nd
            subst hcc
            simp only [walkV] at hwalk0
            split at hwalk0
            case isFalse => cases hwalk0
            case isTrue hki =>
            have hx : x.getD i.toNat a.zero = x[i.toNat] := by simp [List.getD, hki]
            rw [hx] at hget0 hset
            rw [add_mk] at hwalk0
            cases p with
            | nil => simp [walkV] at hwalk
            | cons s2 p =>
              cases s2 <;> simp only [getP] at hget <;> try cases hget
              rename_i j
              simp only [walkV] at hwalk
              split at hwalk
              case isFalse => cases hwalk
              case isTrue hkj =>
              rw [add_mk] at hwalk
              by_cases hij : i.toNat = j.toNat
              · obtain ⟨ck, f1, fk, f2, ef, hck, hrk, -⟩ := repL_split lenR x oo fs i.toNat hki hr
                have ndk : ND fk := by have := nd'.2; rw [ef] at this; exact (ND.append.1 (ND.append.1 this).2.1).1
                have hbk : ∀ r ∈ fk, r.blk ≠ bb := fun r hr => (nd'.1 r (by rw [ef]; simp [hr])).symm
                rw [← hij] at hget hwalk
                rw [hx] at hget
                obtain ⟨h1, h2⟩ := walkA_keep hs hXG p0 a m x[i.toNat] bb (oo + i.toNat * a.sz) ck fk v v' a0 q hck hrk ndk hbk hget0 hwalk0 hset cv fv Out hcv hrv hXs (fun b hb => ⟨fun e => hO b hb ⟨bb, oo, oo + cap * a.sz⟩ (by simp) e.symm, fun r hr => hO b hb r (by rw [ef]; simp [hr])⟩) p u ad (by simpa [pat, kills] using hk) hget hwalk
                exact ⟨by simp only [walkV, add_mk, ← hij, hki, if_true]; exact h1, h2⟩
              · have hxj : x.getD j.toNat a.zero = x[j.toNat] := by simp [List.getD, hkj]
                rw [hxj] at hget
                obtain ⟨ci, fi, cj, fj, k1, k2, k3, k4, k5, k6, hci, hcj⟩ := repL_two lenR x oo fs i.toNat j.toNat hki hkj hij hr nd'.2
                have hin := placeIn p0 a m x[i.toNat] bb (oo + i.toNat * a.sz) ci fi v v' a0 q hci k1 hget0 hwalk0 hset
                have hsub := place_sub hci k1 hget0 hwalk0 hcv hrv
                have hdis : i.toNat * a.sz + a.sz ≤ j.toNat * a.sz ∨ j.toNat * a.sz + a.sz ≤ i.toNat * a.sz := by
                  rcases Nat.lt_or_ge i.toNat j.toNat with h | h
                  · left; have := Nat.mul_le_mul_right a.sz h; simpa [Nat.succ_mul] using this
                  · right; have := Nat.mul_le_mul_right a.sz (show j.toNat + 1 ≤ i.toNat by omega); simpa [Nat.succ_mul] using this
                obtain ⟨h1, h2⟩ := readW hs hXG p a m x[j.toNat] ⟨bb, oo + j.toNat * a.sz, none⟩ cj fj u ad hcj k2 hget hwalk (fun l hl h => by
                  rcases hXs _ _ h with ⟨e1, e2, e3⟩ | ⟨rv, hrv', ev⟩ | ho
                  rotate_left
                  · exact nd'.1 rv (k3 rv (hsub rv hrv')) ev.symm
                  · exact hO _ ho ⟨bb, oo, oo + cap * a.sz⟩ (by simp) rfl
                  rw [add_mk] at e2 e3
                  simp only at e1 e2 e3
                  rcases hin with ⟨h4, h5, h6⟩ | ⟨r, hr, h4⟩
                  · omega
                  · exact nd'.1 r (k3 r hr) (e1.trans h4.symm)) (fun b i h ⟨r, hr, e⟩ => by
                  rcases hXs _ _ h with ⟨e1, _, _⟩ | ⟨rv, hrv', ev⟩ | ho
                  rotate_left
                  · exact k6 rv (hsub rv hrv') r hr (ev.trans e.symm)
                  · exact hO _ ho r (by simp [k4 r hr]) e
                  rcases hin with ⟨h4, _⟩ | ⟨r', hr', h4⟩
                  · exact nd'.1 r (k4 r hr) (h4.symm.trans (e1.symm.trans e.symm))
                  · exact k6 r' hr' r hr (h4.trans (e1.symm.trans e.symm)))
                exact ⟨by simp only [walkV, hkj, if_true, add_mk]; exact h1, h2⟩
        | _ => simp [setP] at hset
      | _ => simp [walkV] at hwalk0
    | der =>
      cases t with
      | ptr a =>
        cases m with
        | o m =>
          simp only [getP] at hget0
          simp only [setP, Option.map_eq_some_iff] at hset
          obtain ⟨q, hset, rfl⟩ := hset
          obtain ⟨y, bb, oo, cc, fs, rfl, rfl, rfl, hspb, hcc, hr⟩ := hr
          simp only [Option.getD_some] at hget0 hset
          simp only [walkV] at hwalk0
          have nd' := List.pairwise_cons.1 nd
          cases p with
          | nil => simp [walkV] at hwalk
          | cons s2 p =>
            cases s2 <;> simp only [getP] at hget <;> try cases hget
            simp only [Option.getD_some] at hget
            simp only [walkV] at hwalk
            obtain ⟨h1, h2⟩ := walkA_keep hs hXG p0 a m y bb oo cc fs v v' a0 q hcc hr nd'.2 (fun r hr => (nd'.1 r hr).symm) hget0 hwalk0 hset cv fv Out hcv hrv hXs (fun b hb => ⟨fun e => hO b hb ⟨bb, oo, oo + a.sz⟩ (by simp) e.symm, fun r hr => hO b hb r (by simp [hr])⟩) p u ad (by simpa [pat, kills] using hk) hget hwalk
            exact ⟨by simp only [walkV]; exact h1, h2⟩
        | _ => simp [setP] at hset
      | _ => simp [walkV] at hwalk0

end Go.VL

namespace Go.VL

def isAddr : Value → Bool
  | .slice .. | .pointer _ => true
  | _ => false

/-- a write over cells that hold no address turns no path -/
theorem walkA_ip {w w' : World} {X : Nat → Nat → Prop} (hs : Same X w w') (hX : ∀ (a : Addr) v, w.cell? a = some v → X a.block a.off → isAddr v = false) :
    ∀ (p : List Step) (t : Ty) (ad0 ad : Addr), walkA w p t ad0 = some ad → walkA w' p t ad0 = some ad := by
  have keep : ∀ (a : Addr) v, w.cell? a = some v → isAddr v = true → w'.cell? a = some v := fun a v h ha => hs.cellSome h (fun x => by rw [hX a v h x] at ha; cases ha)
  intro p
  induction p with
  | nil => intro t ad0 ad h; exact h
  | cons s p ih =>
    intro t ad0 ad h
    cases s <;> cases t <;> simp only [walkA] at h ⊢ <;> try cases h
    case fst.pair => exact ih _ _ _ h
    case snd.pair => exact ih _ _ _ h
    case idx.list i a =>
      cases hc : w.cell? ad0 with
      | none => simp [hc] at h
      | some v =>
        cases v <;> simp only [hc] at h <;> try cases h
        case slice A l c =>
          rw [keep _ _ hc rfl]
          cases A with
          | none => cases h
          | some A =>
            simp only at h ⊢
            split at h
            · rename_i hi; rw [if_pos hi]; exact ih _ _ _ h
            · cases h
    case idx.arr i n a =>
      split at h
      · rename_i hi; rw [if_pos hi]; exact ih _ _ _ h
      · cases h
    case der.ptr a =>
      cases hc : w.cell? ad0 with
      | none => simp [hc] at h
      | some v =>
        cases v <;> simp only [hc] at h <;> try cases h
        case pointer A =>
          rw [keep _ _ hc rfl]
          cases A with
          | none => cases h
          | some A => exact ih _ _ _ h

theorem walkV_ip {w w' : World} {X : Nat → Nat → Prop} (hs : Same X w w') (hX : ∀ (a : Addr) v, w.cell? a = some v → X a.block a.off → isAddr v = false)
    (p : List Step) (t : Ty) (cs : List Value) (ad : Addr) (h : walkV w p t cs = some ad) : walkV w' p t cs = some ad := by
  unfold walkV at h ⊢
  split at h
  · exact walkA_ip hs hX _ _ _ _ h
  · split at h
    · rename_i hi; simp only [hi, if_true]; exact walkA_ip hs hX _ _ _ _ h
    · cases h
  · cases h

theorem rep_notAddr {G : Nat → Prop} {w : World} : ∀ (t : Ty) (m : Md) (x : t.den) (cs : List Value) (fp : List Res), t.hasList = false → rep G w t m x cs fp → ∀ v ∈ cs, isAddr v = false := by
  intro t
  induction t with
  | int k => intro m x cs fp _ h; obtain ⟨rfl, _⟩ := h; simp [isAddr]
  | bool => intro m x cs fp _ h; obtain ⟨rfl, _⟩ := h; simp [isAddr]
  | str => intro m x cs fp _ h; obtain ⟨⟨s, rfl, _⟩, _⟩ := h; simp [isAddr]
  | unit => intro m x cs fp _ h; obtain ⟨rfl, _⟩ := h; simp
  | fn => intro m x cs fp _ h; obtain ⟨h, _⟩ := h; cases x <;> simp only at h <;> subst h <;> simp [isAddr]
  | pair a b iha ihb =>
    intro m x cs fp hl h v hv
    simp only [Ty.hasList, Bool.or_eq_false_iff] at hl
    obtain ⟨c1, c2, f1, f2, h1, h2, rfl, rfl⟩ := h
    rcases List.mem_append.1 hv with hv | hv
    · exact iha _ _ _ _ hl.1 h1 v hv
    · exact ihb _ _ _ _ hl.2 h2 v hv
  | arr n a ih =>
    intro m x cs fp hl h
    obtain ⟨_, h⟩ := h
    have : ∀ (xs : List a.den) cs fp, repA (rep G w a m.e) xs cs fp → ∀ v ∈ cs, isAddr v = false := by
      intro xs
      induction xs with
      | nil => intro cs fp h; obtain ⟨rfl, _⟩ := h; simp
      | cons y ys ih2 =>
        intro cs fp h v hv
        obtain ⟨c1, c2, f1, f2, h1, h2, rfl, rfl⟩ := h
        rcases List.mem_append.1 hv with hv | hv
        · exact ih _ _ _ _ hl h1 v hv
        · exact ih2 _ _ h2 v hv
    exact this x cs fp h
  | list a ih => intro m x cs fp hl h; simp [Ty.hasList] at hl
  | ptr a ih => intro m x cs fp hl h; simp [Ty.hasList] at hl

theorem rep_single {G : Nat → Prop} {w : World} : ∀ (t : Ty) (m : Md) (x : t.den) (cs : List Value) (fp : List Res), t.single = true → rep G w t m x cs fp → ∀ v ∈ cs, isAddr v = true
  | .list _, m, x, cs, fp, _, h => by
    cases m with
    | h => obtain ⟨⟨A, l, cc, rfl⟩, _⟩ := h; simp [isAddr]
    | o _ => rcases h with ⟨_, rfl, _⟩ | ⟨_, _, _, _, rfl, _⟩ <;> simp [isAddr]
    | s => obtain ⟨⟨A, cap, rfl, _⟩, _⟩ := h; simp [isAddr]
    | p _ _ => obtain ⟨⟨A, cap, rfl, _⟩, _⟩ := h; simp [isAddr]
  | .ptr _, m, x, cs, fp, _, h => by
    cases m with
    | h => obtain ⟨⟨p, rfl⟩, _⟩ := h; simp [isAddr]
    | o _ => obtain ⟨y, bb, o, cc, f, _, rfl, _⟩ := h; simp [isAddr]
    | s => obtain ⟨_, rfl, _⟩ := h; simp [isAddr]
    | p _ _ => obtain ⟨_, rfl, _⟩ := h; simp [isAddr]

/-! ### From a value -/
theorem readV {G : Nat → Prop} {w : World} (p : List Step) (t : Ty) (m : Md) (x : t.den) (cs : List Value) (fp : List Res) (v : TV) (ad : Addr)
    (hr : rep G w t m x cs fp) (hget : getP p t m x = some v) (hwalk : walkV w p t cs = some ad) :
    ∃ c1 f, cellsAt w ad c1 ∧ rep G w v.t v.m v.x c1 f ∧ (∀ r ∈ f, r ∈ fp) ∧ (G ad.block ∨ blks fp ad.block) ∧
      ∀ X w', Same X w w' → (∀ b i, X b i → ¬ G b ∧ ¬ blks fp b) → walkV w' p t cs = some ad := by
  unfold walkV at hwalk
  split at hwalk
  · rename_i p a ad0
    cases m with
    | o m =>
      obtain ⟨y, bb, oo, cc, fs, rfl, hv, rfl, hspb, hcc, hr⟩ := hr
      simp only [List.cons.injEq, Value.pointer.injEq, Option.some.injEq, and_true] at hv
      subst hv
      simp only [getP, Option.getD_some] at hget
      obtain ⟨d1, f, h1, h2, h3, h4, h5⟩ := readA p a m y ⟨bb, oo, none⟩ cc fs v ad hcc hr hget hwalk
      refine ⟨d1, f, h1, h2, fun r hr => by simp [h3 r hr], ?_, fun X w' hs hX => ?_⟩
      · rcases h4 with h | h | ⟨r, hr, h⟩
        · exact .inr ⟨⟨bb, oo, oo + a.sz⟩, by simp, h.symm⟩
        · exact .inl h
        · exact .inr ⟨r, by simp [hr], h⟩
      · simp only [walkV]
        exact h5 X w' hs (fun i h => (hX _ _ h).2 ⟨⟨bb, oo, oo + a.sz⟩, by simp, rfl⟩) (fun b i h => ⟨(hX b i h).1, fun ⟨r, hr, h'⟩ => (hX b i h).2 ⟨r, by simp [hr], h'⟩⟩)
    | _ => simp [getP] at hget
  · rename_i i p a A len cap
    split at hwalk
    case isFalse => cases hwalk
    case isTrue hk =>
    cases m with
    | o m =>
      simp only [getP] at hget
      rcases hr with ⟨_, hv, _⟩ | ⟨bb, oo, cap, fs, hv, hlc, rfl, hspb, hr⟩
      · simp at hv
      · simp only [List.cons.injEq, Value.slice.injEq, Option.some.injEq, and_true] at hv
        obtain ⟨rfl, rfl, rfl⟩ := hv
        have hx : x.getD i.toNat a.zero = x[i.toNat] := by simp [List.getD, hk]
        rename_i cap
        rw [hx] at hget
        obtain ⟨ck, f1, fk, f2, rfl, hck, hrk, -⟩ := repL_split (sz := a.sz) (fun x c f h => rep_len _ _ _ _ _ h) x oo fs i.toNat hk hr
        obtain ⟨d1, f, h1, h2, h3, h4, h5⟩ := readA p a m x[i.toNat] ((⟨bb, oo, none⟩ : Addr).add (i.toNat * a.sz)) ck fk v ad (by rw [add_mk]; exact hck) hrk hget hwalk
        rw [add_block] at h4
        refine ⟨d1, f, h1, h2, fun r hr => by simp [h3 r hr], ?_, fun X w' hs hX => ?_⟩
        · rcases h4 with h | h | ⟨r, hr, h⟩
          · exact .inr ⟨⟨bb, oo, oo + cap * a.sz⟩, by simp, h.symm⟩
          · exact .inl h
          · exact .inr ⟨r, by simp [hr], h⟩
        · simp only [walkV, hk, if_true]
          exact h5 X w' hs (fun i h => (hX _ _ h).2 ⟨⟨bb, oo, oo + cap * a.sz⟩, by simp, by rw [add_block]⟩) (fun b i h => ⟨(hX b i h).1, fun ⟨r, hr, h'⟩ => (hX b i h).2 ⟨r, by simp [hr], h'⟩⟩)
    | s =>
      simp only [getP] at hget
      obtain ⟨⟨A', cap, hv, _, hh⟩, rfl⟩ := hr
      simp only [List.cons.injEq, Value.slice.injEq, and_true] at hv
      obtain ⟨rfl, rfl, rfl⟩ := hv
      obtain ⟨ad1, c1, ha, hg, hc1, hr1⟩ := hh i.toNat hk
      cases ha
      have hx : x.getD i.toNat a.zero = x[i.toNat] := by simp [List.getD, hk]
      rw [hx] at hget
      obtain ⟨d1, f, h1, h2, h3, h4, h5⟩ := readA p a .s x[i.toNat] (A.add (i.toNat * a.sz)) c1 [] v ad hc1 hr1 hget hwalk
      rw [add_block] at h4
      refine ⟨d1, f, h1, h2, fun r hr => absurd (h3 r hr) (by simp), .inl ?_, fun X w' hs hX => ?_⟩
      · rcases h4 with h | h | ⟨r, hr, _⟩
        · rw [h]; exact hg
        · exact h
        · simp at hr
      · simp only [walkV, hk, if_true]
        exact h5 X w' hs (fun i h => (hX _ _ h).1 (by rw [add_block]; exact hg)) (fun b i h => ⟨(hX b i h).1, fun ⟨r, hr, _⟩ => by simp at hr⟩)
    | _ => simp [getP] at hget
  · cases hwalk

theorem lensX {G : Nat → Prop} {w : World} (p : List Step) (t : Ty) (m : Md) (x : t.den) (cs : List Value) (fp : List Res) (v v' : TV) (ad : Addr) (r2 : Md × t.den)
    (hr : rep G w t m x cs fp) (nd : ND fp) (hgf : ∀ r ∈ fp, ¬ G r.blk) (hget : getP p t m x = some v) (hwalk : walkV w p t cs = some ad) (ht : v'.t = v.t) (hset : setP p t m x v' = some r2) :
    ∃ b o c1 f pre post, ad = ⟨b, o, none⟩ ∧ cellsAt w ad c1 ∧ rep G w v.t v.m v.x c1 f ∧ fp = pre ++ (f ++ post) ∧ spanOk w b (o + v.t.sz) ∧
      (∃ r ∈ pre ++ post, r.blk = b ∧ r.lo ≤ o ∧ o + v.t.sz ≤ r.hi) ∧
      ∀ (G' : Nat → Prop) (X : Nat → Nat → Prop) w' c1' f', (∀ b, G b → G' b) → Same X w w' → (∀ b' i, X b' i → ¬ G b') → (∀ b' i, X b' i → cut b o v.t.sz f b' i ∨ ¬ blks fp b') → cellsAt w' ad c1' → rep G' w' v'.t v'.m v'.x c1' f' →
        rep G' w' t r2.1 r2.2 cs (pre ++ (f' ++ post)) := by
  unfold walkV at hwalk
  split at hwalk
  · rename_i p a ad0
    cases m with
    | o m =>
      simp only [setP, Option.map_eq_some_iff] at hset
      obtain ⟨q, hset, rfl⟩ := hset
      obtain ⟨y, bb, oo, cc, fs, rfl, hv, rfl, hspb, hcc, hr⟩ := hr
      simp only [List.cons.injEq, Value.pointer.injEq, Option.some.injEq, and_true] at hv
      subst hv
      simp only [getP, Option.getD_some] at hget hset
      have nd' := List.pairwise_cons.1 nd
      obtain ⟨b, o, d1, f, pre, post, rfl, hd1, hr1, rfl, hsp1, hin, hupd⟩ := lensA p a m y bb oo cc fs v v' ad q hcc hr nd'.2
          (fun r hr => (nd'.1 r hr).symm) (hgf ⟨bb, oo, oo + a.sz⟩ (by simp)) (fun r hr => hgf r (by simp [hr])) hspb hget hwalk ht hset
      refine ⟨b, o, d1, f, ⟨bb, oo, oo + a.sz⟩ :: pre, post, rfl, hd1, hr1, by simp, hsp1, ?_, fun G' X w' c1' f' hG hs hXG hXc hc1' hr1' => ?_⟩
      · rcases hin with ⟨h1, h2, h3⟩ | ⟨r, hr, h⟩
        · exact ⟨⟨bb, oo, oo + a.sz⟩, by simp, h1.symm, by simpa using h2, by simpa using h3⟩
        · exact ⟨r, by simp at hr ⊢; rcases hr with h | h <;> simp [h], h⟩
      · obtain ⟨ck', hck', hrk'⟩ := hupd G' X w' c1' f' hG hs hXG (fun b' i hx => (hXc b' i hx).imp id (fun h => ⟨fun e => h ⟨⟨bb, oo, oo + a.sz⟩, by simp, e.symm⟩, fun ⟨r, hr, e⟩ => h ⟨r, by simp at hr ⊢; rcases hr with h | h | h <;> simp [h], e⟩⟩)) hc1' hr1'
        exact ⟨q.2, bb, oo, ck', pre ++ (f' ++ post), rfl, rfl, by simp, hs.span hspb, hck', hrk'⟩
    | _ => simp [setP] at hset
  · rename_i i p a A len cap
    split at hwalk
    case isFalse => cases hwalk
    case isTrue hk =>
    cases m with
    | o m =>
      simp only [getP] at hget
      simp only [setP, Option.bind_eq_some_iff] at hset
      obtain ⟨q, hset, hq⟩ := hset
      split at hq
      case isFalse => cases hq
      case isTrue hqm =>
      simp only [Option.some.injEq] at hq
      subst hq
      rcases hr with ⟨_, hv, _⟩ | ⟨bb, oo, cap, fs, hv, hlc, rfl, hspb, hr⟩
      · simp at hv
      · simp only [List.cons.injEq, Value.slice.injEq, Option.some.injEq, and_true] at hv
        obtain ⟨rfl, rfl, rfl⟩ := hv
        have hx : x.getD i.toNat a.zero = x[i.toNat] := by simp [List.getD, hk]
        rw [hx] at hget hset
        rename_i cap
        obtain ⟨ck, f1, fk, f2, rfl, hck, hrk, hupdL⟩ := repL_split (sz := a.sz) (fun x c f h => rep_len _ _ _ _ _ h) x oo fs i.toNat hk hr
        have nd' : ND (f1 ++ (fk ++ f2)) ∧ ∀ r ∈ f1 ++ (fk ++ f2), bb ≠ r.blk := by
          have := List.pairwise_cons.1 nd
          exact ⟨this.2, fun r hr => this.1 r hr⟩
        obtain ⟨n1, n2, n12⟩ := ND.append.1 nd'.1
        obtain ⟨nk, n2, nk2⟩ := ND.append.1 n2
        rw [add_mk] at hwalk
        have hle : i.toNat * a.sz + a.sz ≤ cap * a.sz := by
          have : (i.toNat + 1) * a.sz ≤ cap * a.sz := Nat.mul_le_mul_right _ (by omega)
          rwa [Nat.add_mul, Nat.one_mul] at this
        obtain ⟨b, o, d1, f, pre, post, rfl, hd1, hr1, rfl, hsp1, hin, hupd⟩ := lensA p a m x[i.toNat] bb (oo + i.toNat * a.sz) ck fk v v' ad q hck hrk nk
          (fun r hr => (nd'.2 r (by simp [hr])).symm) (hgf ⟨bb, oo, oo + cap * a.sz⟩ (by simp)) (fun r hr => hgf r (by simp [hr]))
          (hspb.mono (by omega)) hget hwalk ht hset
        have hbr : ∃ r ∈ (⟨bb, oo, oo + cap * a.sz⟩ : Res) :: (pre ++ post), r.blk = b ∧ r.lo ≤ o ∧ o + v.t.sz ≤ r.hi := by
          rcases hin with ⟨h1, h2, h3⟩ | ⟨r, hr, h⟩
          · exact ⟨⟨bb, oo, oo + cap * a.sz⟩, by simp, h1.symm, by simp; omega, by simp; omega⟩
          · exact ⟨r, by simp at hr ⊢; rcases hr with h | h <;> simp [h], h⟩
        have hbb : ∃ r ∈ (⟨bb, oo, oo + cap * a.sz⟩ : Res) :: (pre ++ post), r.blk = b := by
          obtain ⟨r, hr, h, _⟩ := hbr
          exact ⟨r, hr, h⟩
        refine ⟨b, o, d1, f, ⟨bb, oo, oo + cap * a.sz⟩ :: (f1 ++ pre), post ++ f2, rfl, hd1, hr1, by simp, hsp1, ?_, fun G' X w' c1' f' hG hs hXG hXc hc1' hr1' => ?_⟩
        · obtain ⟨r, hr, h⟩ := hbr
          exact ⟨r, by simp at hr ⊢; rcases hr with h | h | h <;> simp [h], h⟩
        · obtain ⟨ck', hck', hrk'⟩ := hupd G' X w' c1' f' hG hs hXG (fun b' i hx => (hXc b' i hx).imp id (fun h => ⟨fun e => h ⟨⟨bb, oo, oo + cap * a.sz⟩, by simp, e.symm⟩, fun ⟨r, hr, e⟩ => h ⟨r, by simp at hr ⊢; rcases hr with h | h | h <;> simp [h], e⟩⟩)) hc1' hr1'
          rw [hqm] at hrk'
          refine .inr ⟨bb, oo, cap, f1 ++ (pre ++ (f' ++ post) ++ f2), by simp, by simpa using hlc, by simp, hs.span hspb, ?_⟩
          refine hupdL (rep G' w' a m) X w' q.2 ck' (pre ++ (f' ++ post)) hs (fun j hX => ?_) (fun y c g hg' hy => ?_) hck' hrk'
          · rcases hXc _ _ hX with (⟨h1, h2, h3⟩ | ⟨r, hr, h⟩) | hn
            · rcases hin with ⟨_, h5, h6⟩ | ⟨r, hr, h4, _⟩
              · exact ⟨by omega, by omega⟩
              · exact absurd (h1.trans h4.symm) (nd'.2 r (by simp at hr ⊢; rcases hr with h | h <;> simp [h]))
            · exact absurd h.symm (nd'.2 r (by simp [hr]))
            · exact absurd ⟨⟨bb, oo, oo + cap * a.sz⟩, by simp, rfl⟩ hn
          · refine rep_frame hs hG hXG _ _ _ _ _ (fun r hr j hX => ?_) hy
            have hrr := hg' r hr
            have hrf : r.blk ≠ bb := (nd'.2 r (by simp at hrr ⊢; rcases hrr with h | h <;> simp [h])).symm
            have hne : ∀ z ∈ pre ++ (f ++ post), r.blk ≠ z.blk := by
              intro z hz
              rcases List.mem_append.1 hrr with h | h
              · exact n12 r h z (by simp at hz ⊢; rcases hz with h | h | h <;> simp [h])
              · exact (nk2 z hz r h).symm
            rcases hXc _ _ hX with (⟨h1, _⟩ | ⟨z, hz, h⟩) | hn
            · obtain ⟨z, hz, h2⟩ := hbb
              rcases List.mem_cons.1 hz with rfl | hz
              · exact hrf (h1.trans h2.symm)
              · exact hne z (by simp at hz ⊢; rcases hz with h | h <;> simp [h]) (h1.trans h2.symm)
            · exact hne z (by simp [hz]) h.symm
            · exact hn ⟨r, by simp at hrr ⊢; rcases hrr with h | h <;> simp [h], rfl⟩
    | _ => simp [setP] at hset
  · cases hwalk

theorem lensV {G : Nat → Prop} {w : World} (p : List Step) (t : Ty) (m : Md) (x : t.den) (cs : List Value) (fp : List Res) (v v' : TV) (ad : Addr) (r2 : Md × t.den)
    (hr : rep G w t m x cs fp) (nd : ND fp) (hgf : ∀ r ∈ fp, ¬ G r.blk) (hget : getP p t m x = some v) (hwalk : walkV w p t cs = some ad) (ht : v'.t = v.t) (hset : setP p t m x v' = some r2) :
    ∃ b o c1 f pre post, ad = ⟨b, o, none⟩ ∧ cellsAt w ad c1 ∧ rep G w v.t v.m v.x c1 f ∧ fp = pre ++ (f ++ post) ∧ spanOk w b (o + v.t.sz) ∧
      (∃ r ∈ pre ++ post, r.blk = b ∧ r.lo ≤ o ∧ o + v.t.sz ≤ r.hi) ∧
      ∀ (G' : Nat → Prop) w' c1' f', (∀ b, G b → G' b) → Same (cut b o v.t.sz f) w w' → cellsAt w' ad c1' → rep G' w' v'.t v'.m v'.x c1' f' →
        rep G' w' t r2.1 r2.2 cs (pre ++ (f' ++ post)) := by
  obtain ⟨b, o, c1, f, pre, post, h1, h2, h3, h4, h5, h6, h7⟩ := lensX p t m x cs fp v v' ad r2 hr nd hgf hget hwalk ht hset
  refine ⟨b, o, c1, f, pre, post, h1, h2, h3, h4, h5, h6, fun G' w' c1' f' hG hs hc hr' => h7 G' _ w' c1' f' hG hs ?_ (fun _ _ h => .inl h) hc hr'⟩
  rintro b' i (⟨rfl, _⟩ | ⟨r, hr, rfl⟩)
  · obtain ⟨r, hr, rfl, _⟩ := h6
    exact hgf r (by rw [h4]; simp at hr ⊢; rcases hr with h | h <;> simp [h])
  · exact hgf r (by rw [h4]; simp [hr])

/-! ### Longer paths -/
theorem getP_append : ∀ (p q : List Step) (t : Ty) (m : Md) (x : t.den), getP (p ++ q) t m x = (getP p t m x).bind fun v => getP q v.t v.m v.x := by
  intro p
  induction p with
  | nil => intro q t m x; rfl
  | cons s p ih =>
    intro q t m x
    cases s <;> cases t <;> first
      | rfl
      | (simp only [List.cons_append, getP]; exact ih ..)
      | (cases m <;> first | rfl | (simp only [List.cons_append, getP]; exact ih ..))

theorem walkA_append {w : World} : ∀ (p q : List Step) (t : Ty) (m : Md) (x : t.den) (v : TV) (ad0 ad : Addr), getP p t m x = some v → walkA w p t ad0 = some ad →
    walkA w (p ++ q) t ad0 = walkA w q v.t ad := by
  intro p
  induction p with
  | nil =>
    intro q t m x v ad0 ad hget hwalk
    simp only [getP, Option.some.injEq] at hget
    simp only [walkA, Option.some.injEq] at hwalk
    subst hget hwalk
    rfl
  | cons s p ih =>
    intro q t m x v ad0 ad hget hwalk
    cases s with
    | fst => cases t <;> simp only [getP] at hget <;> first | cases hget | exact ih q _ _ _ v _ _ hget hwalk
    | snd => cases t <;> simp only [getP] at hget <;> first | cases hget | exact ih q _ _ _ v _ _ hget hwalk
    | idx i =>
      cases t with
      | arr n a =>
        simp only [List.cons_append, walkA] at hwalk ⊢
        split at hwalk
        · rename_i hi; rw [if_pos hi]; exact ih q _ _ _ v _ _ hget hwalk
        · cases hwalk
      | list a =>
        simp only [List.cons_append, walkA] at hwalk ⊢
        split at hwalk
        · rename_i hc; split at hwalk
          · rename_i hi
            simp only [hi, if_true]
            cases m <;> simp only [getP] at hget <;> first | cases hget | exact ih q _ _ _ v _ _ hget hwalk
          · cases hwalk
        · cases hwalk
      | _ => simp [getP] at hget
    | der =>
      cases t with
      | ptr a =>
        simp only [List.cons_append, walkA] at hwalk ⊢
        split at hwalk
        · rename_i hc
          cases m <;> simp only [getP] at hget <;> first | cases hget | exact ih q _ _ _ v _ _ hget hwalk
        · cases hwalk
      | _ => simp [getP] at hget

theorem walkV_append {w : World} (p q : List Step) (t : Ty) (m : Md) (x : t.den) (cs : List Value) (v : TV) (ad : Addr) (hget : getP p t m x = some v) (hwalk : walkV w p t cs = some ad) :
    walkV w (p ++ q) t cs = walkA w q v.t ad := by
  unfold walkV at hwalk
  split at hwalk
  · rename_i p a ad0
    simp only [List.cons_append, walkV]
    cases m <;> simp only [getP] at hget <;> first | cases hget | exact walkA_append p q _ _ _ v _ _ hget hwalk
  · rename_i i p a A len cap
    split at hwalk
    case isFalse => cases hwalk
    case isTrue hk =>
    simp only [List.cons_append, walkV, hk, if_true]
    cases m <;> simp only [getP] at hget <;> first | cases hget | exact walkA_append p q _ _ _ v _ _ hget hwalk
  · cases hwalk

/-- where a field lies in its struct -/
def offOf : Nat → Ty → Nat
  | n + 1, .pair a b => a.sz + offOf n b
  | _, _ => 0

theorem walkA_steps {w : World} : ∀ (f : Nat) (t : Ty) (m : Md) (x : t.den) (v : TV) (ad : Addr), getP (stepsOf f) t m x = some v → walkA w (stepsOf f) t ad = some (ad.add (offOf f t)) := by
  intro f
  induction f with
  | zero =>
    intro t m x v ad h
    cases t <;> simp [stepsOf, getP] at h
    simp [stepsOf, walkA, offOf, Addr.add]
  | succ f ih =>
    intro t m x v ad h
    cases t <;> simp only [stepsOf, getP] at h <;> try cases h
    rename_i a b
    simp only [stepsOf, walkA, offOf, ih _ _ _ _ _ h, add_add]

theorem walkA_split {w : World} : ∀ (p q : List Step) (t : Ty) (a0 ad : Addr), walkA w (p ++ q) t a0 = some ad → ∃ a1, walkA w p t a0 = some a1
  | [], _, _, a0, _, _ => ⟨a0, rfl⟩
  | s :: p, q, t, a0, ad, h => by
    cases s <;> cases t <;> simp only [List.cons_append, walkA] at h ⊢ <;> try (cases h; done)
    · exact walkA_split p q _ _ ad h
    · exact walkA_split p q _ _ ad h
    · split at h
      · split at h
        · rename_i hi; simp only [hi, if_true]; exact walkA_split p q _ _ ad h
        · cases h
      · cases h
    · split at h
      · rename_i hi; simp only [hi, if_true]; exact walkA_split p q _ _ ad h
      · cases h
    · split at h
      · exact walkA_split p q _ _ ad h
      · cases h

theorem walkV_split {w : World} (s : Step) (p q : List Step) (t : Ty) (cs : List Value) (ad : Addr) (h : walkV w (s :: p ++ q) t cs = some ad) : ∃ a1, walkV w (s :: p) t cs = some a1 := by
  rw [List.cons_append] at h
  unfold walkV at h ⊢
  split at h
  · rename_i heq
    simp only [List.cons.injEq] at heq
    obtain ⟨rfl, rfl⟩ := heq
    exact walkA_split p q _ _ ad h
  · rename_i heq
    simp only [List.cons.injEq] at heq
    obtain ⟨rfl, rfl⟩ := heq
    split at h
    · rename_i hi
      simp only [hi, if_true]
      exact walkA_split p q _ _ ad h
    · cases h
  · cases h

theorem walkV_one (w w' : World) (s : Step) (t : Ty) (c : List Value) : walkV w [s] t c = walkV w' [s] t c := by
  unfold walkV
  split
  · rename_i heq; simp only [List.cons.injEq] at heq; obtain ⟨_, rfl⟩ := heq; rfl
  · rename_i heq; simp only [List.cons.injEq] at heq; obtain ⟨_, rfl⟩ := heq; rfl
  · rfl

/-- an address stays where it is when no list on its way is replaced -/
theorem walkV_keepL {G : Nat → Prop} {w w' : World} {X : Nat → Nat → Prop} (hs : Same X w w') (hXG : ∀ b i, X b i → ¬ G b) (p0 : List Step) (t : Ty) (m : Md) (x : t.den) (c : List Value) (fp : List Res) (v v' : TV) (a0 : Addr) (r2 : Md × t.den)
    (hr : rep G w t m x c fp) (nd : ND fp) (hget0 : getP p0 t m x = some v) (hwalk0 : walkV w p0 t c = some a0) (hset : setP p0 t m x v' = some r2)
    (cv : List Value) (fv : List Res) (Out : Nat → Prop) (hcv : cellsAt w a0 cv) (hrv : rep G w v.t v.m v.x cv fv)
    (hXs : ∀ b i, X b i → (b = a0.block ∧ a0.off ≤ i ∧ i < a0.off + v.t.sz) ∨ blks fv b ∨ Out b) (hO : ∀ b, Out b → ∀ r ∈ fp, r.blk ≠ b)
    (p : List Step) (u : TV) (ad : Addr) (hk : kills (pat p0) p.dropLast = false) (hget : getP p t m x = some u) (hwalk : walkV w p t c = some ad) : walkV w' p t c = some ad := by
  rcases List.eq_nil_or_concat p with rfl | ⟨p1, s, rfl⟩
  · simp [walkV] at hwalk
  · rw [List.concat_eq_append] at *
    rw [List.dropLast_concat] at hk
    cases p1 with
    | nil =>
      simp only [List.nil_append] at hwalk ⊢
      rw [walkV_one w' w]; exact hwalk
    | cons s1 p1 =>
      obtain ⟨a1, ha1⟩ := walkV_split s1 p1 [s] t c ad hwalk
      rw [getP_append] at hget
      obtain ⟨u1, hu1, hget⟩ := Option.bind_eq_some_iff.1 hget
      obtain ⟨k1, k2⟩ := walkV_keep hs hXG p0 t m x c fp v v' a0 r2 hr nd hget0 hwalk0 hset cv fv Out hcv hrv hXs hO (s1 :: p1) u1 a1 hk hu1 ha1
      rw [walkV_append (s1 :: p1) [s] t m x c u1 a1 hu1 ha1] at hwalk
      rw [walkV_append (s1 :: p1) [s] t m x c u1 a1 hu1 k1]
      obtain ⟨ut, um, ux⟩ := u1
      simp only at k2 hwalk ⊢
      cases s <;> cases ut <;> simp only [walkA] at hwalk ⊢ <;> try (first | exact hwalk | cases hwalk)
      · split at hwalk
        · rename_i hc; rw [k2 rfl _ hc]; exact hwalk
        · cases hwalk
      · split at hwalk
        · rename_i hc; rw [k2 rfl _ hc]; exact hwalk
        · cases hwalk

end Go.VL

namespace Go.VL

def unpack (t : Ty) (v : Value) : List Value := if t.agg then (match v with | .agg cs => cs.toList | _ => []) else [v]

/-- the value v stands for x -/
def vrel (G : Nat → Prop) (w : World) (t : Ty) (m : Md) (x : t.den) (v : Value) (f : List Res) : Prop :=
  rep G w t m x (unpack t v) f ∧ pack t (unpack t v) = v

theorem unpack_pack {G : Nat → Prop} {w : World} {t : Ty} {m : Md} {x : t.den} {cs : List Value} {f : List Res} (h : rep G w t m x cs f) : unpack t (pack t cs) = cs := by
  have hl := rep_len _ _ _ _ _ h
  unfold unpack pack
  by_cases ha : t.agg = true
  · simp [ha]
  · simp only [ha, if_false, Bool.false_eq_true]
    have h1 : t.sz = 1 := by cases t <;> first | rfl | simp [Ty.agg] at ha
    rw [h1] at hl
    match cs, hl with
    | [a], _ => rfl

theorem vrel_pack {G : Nat → Prop} {w : World} {t : Ty} {m : Md} {x : t.den} {cs : List Value} {f : List Res} (h : rep G w t m x cs f) : vrel G w t m x (pack t cs) f :=
  ⟨by rw [unpack_pack h]; exact h, by rw [unpack_pack h]⟩

theorem vrel_frame {G G' : Nat → Prop} {w w' : World} {X : Nat → Nat → Prop} (hs : Same X w w') (hG : ∀ b, G b → G' b) (hGX : ∀ b i, X b i → ¬ G b) {t : Ty} {m : Md} {x : t.den} {v : Value} {f : List Res}
    (hf : ∀ r ∈ f, ∀ i, ¬ X r.blk i) (h : vrel G w t m x v f) : vrel G' w' t m x v f := ⟨rep_frame hs hG hGX _ _ _ _ _ hf h.1, h.2⟩

def tupRel (G : Nat → Prop) (w : World) : List TV → List Value → List Res → Prop
  | [], [], f => f = []
  | e :: es, v :: vs, f => ∃ f1 f2, vrel G w e.t e.m e.x v f1 ∧ tupRel G w es vs f2 ∧ f = f1 ++ f2
  | _, _, _ => False

theorem tupRel_frame {G G' : Nat → Prop} {w w' : World} {X : Nat → Nat → Prop} (hs : Same X w w') (hG : ∀ b, G b → G' b) (hGX : ∀ b i, X b i → ¬ G b) :
    ∀ (es : List TV) (vs : List Value) (f : List Res), (∀ r ∈ f, ∀ i, ¬ X r.blk i) → tupRel G w es vs f → tupRel G' w' es vs f
  | [], [], _, _, h => h
  | e :: es, v :: vs, f, hf, h => by
    obtain ⟨f1, f2, h1, h2, rfl⟩ := h
    exact ⟨f1, f2, vrel_frame hs hG hGX (fun r hr => hf r (by simp [hr])) h1, tupRel_frame hs hG hGX es vs f2 (fun r hr => hf r (by simp [hr])) h2, rfl⟩
  | [], _ :: _, _, _, h => h.elim
  | _ :: _, [], _, _, h => h.elim

/-- an address -/
@[reducible] def aRel (w : World) (env : Env) (ts : List Value) (r ep : Nat) (p : List Step) (v : Value) (f : List Res) : Prop :=
  f = [] ∧ ep ≤ (env.get r).ep ∧ (fresh (env.get r) ep p.dropLast = true → ∃ t m x u ad, (env.get r).e = .val t m x ∧ getP p t m x = some u ∧
      walkV w p t (unpack t (ts.getD r undef)) = some ad ∧ v = .pointer (some ad))

/-- what a slot's entry says of the value that lies there -/
def slotRel (G : Nat → Prop) (w : World) (env : Env) (ts : List Value) : Entry → Value → List Res → Prop
  | .undef, _, _ => True
  | .val t m x, v, f => vrel G w t m x v f
  | .addr r ep p, v, f => aRel w env ts r ep p v f
  | .pref r ep wc p, v, f => f = [] ∧ ep ≤ (env.get r).ep ∧ wc ≤ (env.get r).wc ∧ (fresh (env.get r) ep p = true → ∃ t m x u, (env.get r).e = .val t m x ∧ getP p t m x = some u ∧
      (aliasOk u wc (env.get r).wc = true → ∃ c, v = pack u.t c ∧ c.length = u.t.sz ∧
        ((p = [] ∧ c = unpack t (ts.getD r undef)) ∨ ∃ ad, walkV w p t (unpack t (ts.getD r undef)) = some ad ∧ cellsAt w ad c)))
  | .ref t x, v, f => f = [] ∧ ∃ ad cs, v = .pointer (some ad) ∧ G ad.block ∧ cellsAt w ad cs ∧ rep G w t .s x cs []
  | .nq neg e, v, f => f = [] ∧ ∃ b, v = .bool (neg != b) ∧ (b = true → e = true)
  | .tup es, v, f => ∃ vs, v = .tuple vs ∧ tupRel G w es vs.toList f
  | .win e sz l h, v, f => f = [] ∧ ∃ A n cap, slotRel G w env ts e (.slice A n cap) [] ∧ l ≤ h ∧ h ≤ n ∧ v = .slice (if cap = l then A else A.map (·.add (l * sz))) (h - l) (cap - l)
  | .cap e r ep, v, f => f = [] ∧ ∃ g b vs p, slotRel G w env ts e (.func g b vs) [] ∧ aRel w env ts r ep [.der] p [] ∧ v = .func g b (vs.push p)
  | .g c e, v, f => match gOf c with
    | true => slotRel G w env ts e v f
    | false => v = undef ∧ f = []

/-- w' is as w but for the cells X of blocks that were there -/
structure Turn (X : Nat → Nat → Prop) (w w' : World) : Prop extends Same X w w' where
  os : w'.os = w.os
  tape : w'.tape = w.tape
  output : w'.output = w.output
  block : ∀ b, b < w.heap.size → (∀ i, ¬ X b i) → w'.heap[b]? = w.heap[b]?

theorem Turn.refl (X : Nat → Nat → Prop) (w : World) : Turn X w w := ⟨Same.refl X w, rfl, rfl, rfl, fun _ _ _ => rfl⟩

theorem Turn.trans {X Y Z : Nat → Nat → Prop} {a b c : World} (h : Turn X a b) (k : Turn Y b c) (hx : ∀ p i, p < a.heap.size → X p i → Z p i) (hy : ∀ p i, p < a.heap.size → Y p i → Z p i) : Turn Z a c where
  size := Nat.le_trans h.size k.size
  shape := (h.toSame.trans k.toSame).shape
  cell := fun ad hlt hz => by
    rw [k.cell ad (Nat.lt_of_lt_of_le hlt h.size) (fun s hc => hz s (hy _ _ hlt hc)), h.cell ad hlt (fun s hc => hz s (hx _ _ hlt hc))]
  os := k.os.trans h.os
  tape := k.tape.trans h.tape
  output := k.output.trans h.output
  block := fun p hlt hz => by
    rw [k.block p (Nat.lt_of_lt_of_le hlt h.size) (fun i hc => hz i (hy _ _ hlt hc)), h.block p hlt (fun i hc => hz i (hx _ _ hlt hc))]

structure Base where
  w0 : World
  G0 : Nat → Prop
  R0 : List Res
  lents : List (Nat × Nat × Nat)

def Base.X0 (B : Base) : Nat → Nat → Prop := fun b i => ∃ r ∈ B.R0, r.blk = b ∧ r.lo ≤ i ∧ i < r.hi

def gval : Entry → Option Bool
  | .val .bool _ v => some v
  | .g _ (.val .bool _ v) => some v
  | _ => none

structure RelX (B : Base) (G : Nat → Prop) (F : Nat → List Res) (H : List (TV × Value)) (env : Env) (ts : List Value) (w : World) : Prop where
  len : env.length = ts.length
  slot : ∀ i, i < env.length → slotRel G w env ts (env.get i).e (ts.getD i undef) (F i)
  held : ∀ k h, H[k]? = some h → vrel G w h.1.t h.1.m h.1.x h.2 (F (env.length + k))
  out : ∀ i, env.length + H.length ≤ i → F i = []
  nd : ∀ i, ND (F i)
  ap : ∀ i j, i ≠ j → Apart (F i) (F j)
  ok : ∀ i, ∀ r ∈ F i, ¬ G r.blk ∧ r.blk < w.heap.size ∧ (B.w0.heap.size ≤ r.blk ∨ ∃ q ∈ B.R0, q.blk = r.blk ∧ q.lo ≤ r.lo ∧ r.hi ≤ q.hi)
  g0 : ∀ b, B.G0 b → G b
  gl : ∀ b, G b → b < w.heap.size ∧ (B.G0 b ∨ B.w0.heap.size ≤ b ∨ blks B.R0 b)
  turn : Turn B.X0 B.w0 w
  chain : ∀ i c e, (env.get i).e = .g c e → ∀ a ∈ c, a.ep ≤ (env.get a.slot).ep ∧ ((env.get a.slot).ep = a.ep → gval (env.get a.slot).e = some a.v)
  lent : ∀ l ∈ B.lents, ∀ t m x, (env.get l.1).e = .val (.ptr t) m x → ts.getD l.1 undef = .pointer (some ⟨l.2.1, l.2.2, none⟩)

theorem Env.get_lt {env : Env} {r : Nat} {e : Entry} (h : (env.get r).e = e) (he : e ≠ .undef) : r < env.length := by
  rcases Nat.lt_or_ge r env.length with h' | h'
  · exact h'
  · simp [Env.get, List.getD, List.getElem?_eq_none h'] at h
    exact absurd h.symm he

section
variable {B : Base} {G : Nat → Prop} {F : Nat → List Res} {H : List (TV × Value)} {env : Env} {ts : List Value} {w : World}

/-- the root of a reference -/
theorem RelX.rootVal (R : RelX B G F H env ts w) {r : Nat} {t : Ty} {m : Md} {x : t.den} (h : (env.get r).e = .val t m x) : r < env.length ∧ vrel G w t m x (ts.getD r undef) (F r) := by
  have hlt := Env.get_lt h (by simp)
  have := R.slot r hlt
  rw [h] at this
  exact ⟨hlt, this⟩

/-- the world turns where nothing is owned and nothing shared -/
theorem RelX.world (R : RelX B G F H env ts w) {X : Nat → Nat → Prop} {w' : World} (hs : Turn X w w') (hG : ∀ b i, X b i → ¬ G b) (hF : ∀ b i, X b i → ∀ j, ¬ blks (F j) b)
    (hX : ∀ b i, b < B.w0.heap.size → X b i → B.X0 b i) : RelX B G F H env ts w' := by
  have hf : ∀ j, ∀ r ∈ F j, ∀ i, ¬ X r.blk i := fun j r hr i hx => hF _ _ hx j ⟨r, hr, rfl⟩
  refine { len := R.len, slot := fun i hi => ?_, held := fun k h hk => vrel_frame hs.toSame (fun _ h => h) hG (hf _) (R.held k h hk), out := R.out, nd := R.nd, ap := R.ap,
           ok := fun i r hr => ⟨(R.ok i r hr).1, Nat.lt_of_lt_of_le (R.ok i r hr).2.1 hs.size, (R.ok i r hr).2.2⟩, g0 := R.g0,
           gl := fun b hb => ⟨Nat.lt_of_lt_of_le (R.gl b hb).1 hs.size, (R.gl b hb).2⟩, turn := R.turn.trans hs (fun _ _ _ h => h) hX, chain := R.chain, lent := R.lent }
  have haddr : ∀ r ep p v f, aRel w env ts r ep p v f → aRel w' env ts r ep p v f := by
    rintro r ep p v f ⟨h1, h2, h3⟩
    refine ⟨h1, h2, fun he => ?_⟩
    obtain ⟨t, m, x, u, ad, hr, hu, hw, hv⟩ := h3 he
    obtain ⟨_, hrep⟩ := R.rootVal hr
    obtain ⟨_, _, _, _, _, _, hst⟩ := readV p t m x _ _ u ad hrep.1 hu hw
    exact ⟨t, m, x, u, ad, hr, hu, hst X w' hs.toSame (fun b i h => ⟨hG b i h, hF b i h r⟩), hv⟩
  have key : ∀ (e : Entry) (v : Value) (f : List Res), (∀ r ∈ f, ∀ i, ¬ X r.blk i) → slotRel G w env ts e v f → slotRel G w' env ts e v f := by
    intro e
    induction e with
    | undef => intro v f _ h; exact h
    | val t m x => intro v f hf' h; exact vrel_frame hs.toSame (fun _ h => h) hG hf' h
    | addr r ep p => exact fun v f _ h => haddr r ep p v f h
    | cap e r ep ih => rintro v f _ ⟨h1, g, b, vs, p, h2, h3, h4⟩; exact ⟨h1, g, b, vs, p, ih _ _ (fun _ h => by simp at h) h2, haddr _ _ _ _ _ h3, h4⟩
    | pref r ep wc p =>
      rintro v f _ ⟨h1, h2, h2', h3⟩
      refine ⟨h1, h2, h2', fun he => ?_⟩
      obtain ⟨t, m, x, u, hr, hu, hc⟩ := h3 he
      refine ⟨t, m, x, u, hr, hu, fun ha => ?_⟩
      obtain ⟨c, hv, hl, hp | ⟨ad, hw, hcc⟩⟩ := hc ha
      · exact ⟨c, hv, hl, .inl hp⟩
      · obtain ⟨_, hrep⟩ := R.rootVal hr
        obtain ⟨c1, f, hc1, hr1, _, hb, hst⟩ := readV p t m x _ _ u ad hrep.1 hu hw
        refine ⟨c, hv, hl, .inr ⟨ad, hst X w' hs.toSame (fun b i h => ⟨hG b i h, hF b i h r⟩), hs.toSame.cellsAt hcc (fun j _ hx => ?_)⟩⟩
        rcases hb with hb | hb
        · exact hG _ _ hx hb
        · exact hF _ _ hx r hb
    | ref t x => rintro v f _ ⟨h1, ad, cs, h2, h3, h4, h5⟩; exact ⟨h1, ad, cs, h2, h3, hs.toSame.cellsAt h4 (fun j _ hx => hG _ _ hx h3), rep_frame hs.toSame (fun _ h => h) hG _ _ _ _ _ (fun _ h => by simp at h) h5⟩
    | nq neg e => intro v f _ h; exact h
    | tup es => rintro v f hf' ⟨vs, rfl, h⟩; exact ⟨vs, rfl, tupRel_frame hs.toSame (fun _ h => h) hG _ _ _ hf' h⟩
    | win e sz l h ih => rintro v f _ ⟨h1, A, n, cap, h2, h3⟩; exact ⟨h1, A, n, cap, ih _ _ (fun _ h => by simp at h) h2, h3⟩
    | g c e ih =>
      intro v f hf' h
      unfold slotRel at h ⊢
      split at h
      · exact ih v f hf' h
      · exact h
  exact key _ _ _ (hf i) (R.slot i hi)

theorem slotRel_G {G' : Nat → Prop} (hG : ∀ b, G b → G' b) : ∀ (e : Entry) (v : Value) (f : List Res), slotRel G w env ts e v f → slotRel G' w env ts e v f := by
  intro e
  induction e with
  | undef => intro v f h; exact h
  | val t m x => intro v f h; exact vrel_frame (X := fun _ _ => False) (Same.refl _ w) hG (fun _ _ h => h.elim) (fun _ _ _ h => h) h
  | addr r ep p => intro v f h; exact h
  | pref r ep wc p => intro v f h; exact h
  | nq neg e => intro v f h; exact h
  | win e sz l h ih => rintro v f ⟨h1, A, n, cap, h2, h3⟩; exact ⟨h1, A, n, cap, ih _ _ h2, h3⟩
  | cap e r ep ih => rintro v f ⟨h1, g, b, vs, p, h2, h3, h4⟩; exact ⟨h1, g, b, vs, p, ih _ _ h2, h3, h4⟩
  | ref t x => rintro v f ⟨h1, ad, cs, h2, h3, h4, h5⟩; exact ⟨h1, ad, cs, h2, hG _ h3, h4, rep_frame (X := fun _ _ => False) (Same.refl _ w) hG (fun _ _ h => h.elim) _ _ _ _ _ (fun _ h => by simp at h) h5⟩
  | tup es => rintro v f ⟨vs, rfl, h⟩; exact ⟨vs, rfl, tupRel_frame (X := fun _ _ => False) (Same.refl _ w) hG (fun _ _ h => h.elim) _ _ _ (fun _ _ _ h => h) h⟩
  | g c e ih =>
    intro v f h
    unfold slotRel at h ⊢
    split at h
    · exact ih v f h
    · exact h

def upd (F : Nat → List Res) (i : Nat) (f : List Res) : Nat → List Res := fun j => if j = i then f else F j

theorem upd_same (F : Nat → List Res) (i : Nat) (f : List Res) : upd F i f i = f := by simp [upd]
theorem upd_other (F : Nat → List Res) {i j : Nat} (f : List Res) (h : j ≠ i) : upd F i f j = F j := by simp [upd, h]

/-- one more value is held -/
theorem RelX.hold (R : RelX B G F H env ts w) {v : TV} {c : Value} {f : List Res} (hv : vrel G w v.t v.m v.x c f) (nd : ND f) (ap : ∀ j, Apart f (F j))
    (ok : ∀ r ∈ f, ¬ G r.blk ∧ r.blk < w.heap.size ∧ (B.w0.heap.size ≤ r.blk ∨ ∃ q ∈ B.R0, q.blk = r.blk ∧ q.lo ≤ r.lo ∧ r.hi ≤ q.hi)) :
    RelX B G (upd F (env.length + H.length) f) (H ++ [(v, c)]) env ts w := by
  have hne : ∀ i, i < env.length → i ≠ env.length + H.length := fun i hi => by omega
  refine { len := R.len, slot := fun i hi => ?_, held := fun k h hk => ?_, out := fun i hi => ?_, nd := fun i => ?_, ap := fun i j hij => ?_, ok := fun i r hr => ?_, g0 := R.g0, gl := R.gl, turn := R.turn, chain := R.chain, lent := R.lent }
  · rw [upd_other F f (hne i hi)]; exact R.slot i hi
  · by_cases hkl : k < H.length
    · rw [List.getElem?_append_left hkl] at hk
      rw [upd_other F f (by omega)]
      exact R.held k h hk
    · rw [List.getElem?_append_right (by omega)] at hk
      by_cases he : k - H.length = 0
      · rw [he] at hk
        simp only [List.getElem?_cons_zero, Option.some.injEq] at hk
        subst hk
        have : k = H.length := by omega
        subst this
        rw [upd_same]
        exact hv
      · obtain ⟨n, hn⟩ : ∃ n, k - H.length = n + 1 := ⟨k - H.length - 1, by omega⟩
        rw [hn] at hk
        simp at hk
  · simp only [List.length_append, List.length_cons, List.length_nil] at hi
    rw [upd_other F f (by omega)]
    exact R.out i (by omega)
  · unfold upd; split
    · exact nd
    · exact R.nd i
  · unfold upd
    split <;> split
    · omega
    · exact ap j
    · exact fun r hr q hq => (ap i q hq r hr).symm
    · exact R.ap i j hij
  · unfold upd at hr
    split at hr
    · exact ok r hr
    · exact R.ok i r hr

/-- a plain value is held -/
theorem RelX.holdPlain (R : RelX B G F H env ts w) {v : TV} {c : Value} (hv : vrel G w v.t v.m v.x c []) : RelX B G F (H ++ [(v, c)]) env ts w := by
  have := R.hold hv (by unfold ND; exact List.Pairwise.nil) (fun _ _ h => by simp at h) (fun _ h => by simp at h)
  have e : upd F (env.length + H.length) [] = F := by
    funext j
    unfold upd
    split
    · rename_i h; rw [h]; exact (R.out _ (Nat.le_refl _)).symm
    · rfl
  rwa [e] at this

theorem Env.get_put_same (env : Env) (u : Up) (h : u.s < env.length) : (env.put u).get u.s = u.on (env.get u.s) := by
  simp [Env.put, Env.get, List.getD, h]
theorem Env.get_putB (env : Env) (s : Nat) (b : Bk) (e : Entry) (h : s < env.length) : (env.put ⟨s, b, e⟩).get s = Up.on ⟨s, b, e⟩ (env.get s) :=
  Env.get_put_same env ⟨s, b, e⟩ h
theorem Env.get_put' (env : Env) (s : Nat) (e : Entry) (h : s < env.length) : (env.put ⟨s, .all, e⟩).get s = ⟨(env.get s).ep + 1, (env.get s).wc + 1, [], e⟩ :=
  Env.get_put_same env ⟨s, .all, e⟩ h
theorem Up.on_e (u : Up) (x : Sl) : (u.on x).e = u.e := by unfold Up.on; split <;> rfl
theorem Up.on_wc (u : Up) (x : Sl) : (u.on x).wc = x.wc + 1 := by unfold Up.on; split <;> rfl
theorem Up.on_ep (u : Up) (x : Sl) : x.ep ≤ (u.on x).ep := by unfold Up.on; split <;> simp
theorem fresh_all {x : Sl} {s ep : Nat} {e : Entry} {p : List Step} (h : ep ≤ x.ep) : fresh (Up.on ⟨s, .all, e⟩ x) ep p = false := by
  have : x.ep + 1 - ep = (x.ep - ep) + 1 := by omega
  simp [fresh, Up.on, this, freshL]
theorem fresh_no {x : Sl} {s ep : Nat} {e : Entry} {p : List Step} : fresh (Up.on ⟨s, .no, e⟩ x) ep p = fresh x ep p := rfl
theorem fresh_at {x : Sl} {s ep : Nat} {e : Entry} {q : List SP} {p : List Step} (h : ep ≤ x.ep) (hf : fresh (Up.on ⟨s, .at q, e⟩ x) ep p = true) : kills q p = false ∧ fresh x ep p = true := by
  have e1 : x.ep + 1 - ep = (x.ep - ep) + 1 := by omega
  simp only [fresh, Up.on, e1, freshL, Bool.and_eq_true, Bool.not_eq_true'] at hf
  exact ⟨hf.2.1, by simp only [fresh, Bool.and_eq_true]; exact ⟨Nat.ble_eq ▸ h, hf.2.2⟩⟩
theorem fresh_now (x : Sl) (p : List Step) : fresh x x.ep p = true := by simp [fresh, freshL]
theorem fresh_sl {a b c d : Nat} {hs : List (List SP)} {e e' : Entry} {p : List Step} : fresh ⟨a, b, hs, e⟩ d p = fresh ⟨a, c, hs, e'⟩ d p := rfl
theorem kills_append : ∀ (q : List SP) (p p2 : List Step), kills q p = true → kills q (p ++ p2) = true
  | [], _, _, _ => by simp [kills]
  | s :: q, [], _, h => by cases s <;> simp [kills] at h
  | s :: q, s' :: p, p2, h => by
    cases s <;> cases s' <;> simp only [kills, List.cons_append] at h ⊢ <;> first | exact kills_append q p p2 h | cases h
theorem kills_drop (q : List SP) (p : List Step) (h : kills q p = false) : kills q p.dropLast = false := by
  rcases List.eq_nil_or_concat p with rfl | ⟨p1, s, rfl⟩
  · exact h
  · rw [List.concat_eq_append] at *
    rw [List.dropLast_concat]
    cases hk : kills q p1 with
    | false => rfl
    | true => rw [kills_append q p1 [s] hk] at h; cases h

theorem freshL_append : ∀ (n : Nat) (hs : List (List SP)) (p p2 : List Step), freshL n hs (p ++ p2) = true → freshL n hs p = true
  | 0, _, _, _, _ => rfl
  | n + 1, [], _, _, h => by simp [freshL] at h
  | n + 1, q :: hs, p, p2, h => by
    simp only [freshL, Bool.and_eq_true, Bool.not_eq_true'] at h ⊢
    refine ⟨?_, freshL_append n hs p p2 h.2⟩
    cases hk : kills q p with
    | false => rfl
    | true => rw [kills_append q p p2 hk] at h; cases h.1
theorem fresh_append {x : Sl} {ep : Nat} {p p2 : List Step} (h : fresh x ep (p ++ p2) = true) : fresh x ep p = true := by
  simp only [fresh, Bool.and_eq_true] at h ⊢
  exact ⟨h.1, freshL_append _ _ _ _ h.2⟩
theorem Env.get_put_other (env : Env) (u : Up) {i : Nat} (h : i ≠ u.s) : (env.put u).get i = env.get i := by
  simp [Env.put, Env.get, List.getD, List.getElem?_set_ne (Ne.symm h)]
theorem Env.length_put (env : Env) (u : Up) : (env.put u).length = env.length := by simp [Env.put]

theorem getD_set_same (ts : List Value) (d : Nat) (v : Value) (h : d < ts.length) : (ts.set d v).getD d undef = v := by simp [List.getD, h]
theorem getD_set_other (ts : List Value) {d i : Nat} (v : Value) (h : i ≠ d) : (ts.set d v).getD i undef = ts.getD i undef := by
  simp [List.getD, List.getElem?_set_ne (Ne.symm h)]

end

end Go.VL

namespace Go.VL
section
variable {B : Base} {G : Nat → Prop} {F : Nat → List Res} {H : List (TV × Value)} {env : Env} {ts : List Value} {w : World}


/-- what other slots say stands when a slot is written anew -/
theorem slotRel_put {d : Nat} {e' : Entry} {c : Value} (hd : d < env.length) : ∀ (e : Entry) (v : Value) (f : List Res), slotRel G w env ts e v f →
    slotRel G w (env.put ⟨d, .all, e'⟩) (ts.set d c) e v f := by
  have hep : ∀ r, (env.get r).ep ≤ ((env.put ⟨d, .all, e'⟩).get r).ep := fun r => by
    by_cases h : r = d
    · subst h; rw [Env.get_put' env r e' hd]; simp
    · rw [Env.get_put_other env ⟨d, .all, e'⟩ h]; exact Nat.le_refl _
  have hwc : ∀ r, (env.get r).wc ≤ ((env.put ⟨d, .all, e'⟩).get r).wc := fun r => by
    by_cases h : r = d
    · subst h; rw [Env.get_put' env r e' hd]; simp
    · rw [Env.get_put_other env ⟨d, .all, e'⟩ h]; exact Nat.le_refl _
  have hsame : ∀ r ep p, ep ≤ (env.get r).ep → fresh ((env.put ⟨d, .all, e'⟩).get r) ep p = true → r ≠ d := fun r ep p hle he h => by
    subst h
    rw [Env.get_putB env r .all e' hd, fresh_all hle] at he
    cases he
  have haddr : ∀ r ep p v f, aRel w env ts r ep p v f → aRel w (env.put ⟨d, .all, e'⟩) (ts.set d c) r ep p v f := by
    rintro r ep p v f ⟨h1, h2, h3⟩
    refine ⟨h1, Nat.le_trans h2 (hep r), fun he => ?_⟩
    have hne := hsame r ep _ h2 he
    rw [Env.get_put_other env ⟨d, .all, e'⟩ hne] at he ⊢
    rw [getD_set_other ts c hne]
    exact h3 he
  intro e
  induction e with
  | undef => intro v f h; exact h
  | val t m x => intro v f h; exact h
  | addr r ep p => exact haddr r ep p
  | cap e r ep ih => rintro v f ⟨h1, g, b, vs, p, h2, h3, h4⟩; exact ⟨h1, g, b, vs, p, ih _ _ h2, haddr _ _ _ _ _ h3, h4⟩
  | pref r ep wc p =>
    rintro v f ⟨h1, h2, h2', h3⟩
    refine ⟨h1, Nat.le_trans h2 (hep r), Nat.le_trans h2' (hwc r), fun he => ?_⟩
    have hne := hsame r ep _ h2 he
    rw [Env.get_put_other env ⟨d, .all, e'⟩ hne] at he ⊢
    rw [getD_set_other ts c hne]
    exact h3 he
  | tup es => intro v f h; exact h
  | win e sz l h ih => rintro v f ⟨h1, A, n, cap, h2, h3⟩; exact ⟨h1, A, n, cap, ih _ _ h2, h3⟩
  | ref t x => intro v f h; exact h
  | nq neg e => intro v f h; exact h
  | g c e ih =>
    intro v f h
    unfold slotRel at h ⊢
    split at h
    · exact ih v f h
    · exact h

theorem RelX.setSlot (R : RelX B G F H env ts w) {d : Nat} {e : Entry} {c : Value} {f : List Res} (hd : d < env.length)
    (hrel : slotRel G w (env.put ⟨d, .all, e⟩) (ts.set d c) e c f) (nd : ND f) (ap : ∀ j, j ≠ d → Apart f (F j))
    (ok : ∀ r ∈ f, ¬ G r.blk ∧ r.blk < w.heap.size ∧ (B.w0.heap.size ≤ r.blk ∨ ∃ q ∈ B.R0, q.blk = r.blk ∧ q.lo ≤ r.lo ∧ r.hi ≤ q.hi))
    (hch : ∀ g e', e = .g g e' → ∀ a ∈ g, a.ep ≤ (env.get a.slot).ep ∧ ((env.get a.slot).ep = a.ep → gval (env.get a.slot).e = some a.v))
    (hl : ∀ l ∈ B.lents, l.1 = d → ∀ t m x, e = .val (.ptr t) m x → c = .pointer (some ⟨l.2.1, l.2.2, none⟩)) :
    RelX B G (upd F d f) H (env.put ⟨d, .all, e⟩) (ts.set d c) w := by
  have hdt : d < ts.length := R.len ▸ hd
  have hch' : ∀ g, (∀ a ∈ g, a.ep ≤ (env.get a.slot).ep ∧ ((env.get a.slot).ep = a.ep → gval (env.get a.slot).e = some a.v)) →
      ∀ a ∈ (g : List GI), a.ep ≤ ((env.put ⟨d, .all, e⟩).get a.slot).ep ∧ (((env.put ⟨d, .all, e⟩).get a.slot).ep = a.ep → gval ((env.put ⟨d, .all, e⟩).get a.slot).e = some a.v) := by
    intro g h a ha
    obtain ⟨h1, h2⟩ := h a ha
    by_cases hs : a.slot = d
    · rw [hs, Env.get_put' env d e hd, ← hs]
      exact ⟨by simp only; omega, fun h => by simp only at h; omega⟩
    · rw [Env.get_put_other env ⟨d, .all, e⟩ hs]
      exact ⟨h1, h2⟩
  refine { len := by rw [Env.length_put, List.length_set]; exact R.len, slot := fun i hi => ?_, held := fun k h hk => ?_, out := fun i hi => ?_, nd := fun i => ?_, ap := fun i j hij => ?_, ok := fun i r hr => ?_,
           g0 := R.g0, gl := R.gl, turn := R.turn, chain := fun i g e' hi => ?_, lent := fun l hl' t m x he => ?_ }
  · rw [Env.length_put] at hi
    by_cases h : i = d
    · subst h
      rw [Env.get_put' env i e hd, getD_set_same ts i c hdt, upd_same]
      exact hrel
    · rw [Env.get_put_other env ⟨d, .all, e⟩ h, getD_set_other ts c h, upd_other F f h]
      exact slotRel_put hd _ _ _ (R.slot i hi)
  · rw [Env.length_put] at *
    rw [upd_other F f (by omega)]
    exact R.held k h hk
  · rw [Env.length_put] at hi
    rw [upd_other F f (by omega)]
    exact R.out i hi
  · unfold upd; split
    · exact nd
    · exact R.nd i
  · unfold upd
    split <;> split
    · omega
    · rename_i h1 h2; exact ap j h2
    · rename_i h1 h2; exact fun r hr q hq => (ap i h1 q hq r hr).symm
    · exact R.ap i j hij
  · unfold upd at hr
    split at hr
    · exact ok r hr
    · exact R.ok i r hr
  · by_cases h : i = d
    · subst h
      rw [Env.get_put' env i e hd] at hi
      exact hch' g (hch g e' hi)
    · rw [Env.get_put_other env ⟨d, .all, e⟩ h] at hi
      exact hch' g (R.chain i g e' hi)
  · by_cases h : l.1 = d
    · rw [h, Env.get_put' env d e hd] at he
      rw [h, getD_set_same ts d c hdt]
      exact hl l hl' h t m x he
    · rw [Env.get_put_other env ⟨d, .all, e⟩ h] at he
      rw [getD_set_other ts c h]
      exact R.lent l hl' t m x he

theorem RelX.dropHeld {h : TV × Value} (R : RelX B G F (H ++ [h]) env ts w) : RelX B G (upd F (env.length + H.length) []) H env ts w := by
  refine { len := R.len, slot := fun i hi => ?_, held := fun k h' hk => ?_, out := fun i hi => ?_, nd := fun i => ?_, ap := fun i j hij => ?_, ok := fun i r hr => ?_, g0 := R.g0, gl := R.gl, turn := R.turn, chain := R.chain, lent := R.lent }
  · rw [upd_other F _ (by omega)]; exact R.slot i hi
  · have hkl : k < H.length := (List.getElem?_eq_some_iff.1 hk).1
    rw [upd_other F _ (by omega)]
    exact R.held k h' (by rw [List.getElem?_append_left hkl]; exact hk)
  · by_cases he : i = env.length + H.length
    · rw [he, upd_same]
    · rw [upd_other F _ he]
      exact R.out i (by simp; omega)
  · unfold upd; split
    · exact List.Pairwise.nil
    · exact R.nd i
  · unfold upd
    split <;> split
    · omega
    · intro r hr; simp at hr
    · intro r _ q hq; simp at hq
    · exact R.ap i j hij
  · unfold upd at hr
    split at hr
    · simp at hr
    · exact R.ok i r hr

/-- the last held value is put into a slot; under guards that hold -/
theorem RelX.unhold {v : TV} {c : Value} (R : RelX B G F (H ++ [(v, c)]) env ts w) {d : Nat} (hd : d < env.length) (g : List GI) (hg : gOf g = true)
    (hch : ∀ a ∈ g, a.ep ≤ (env.get a.slot).ep ∧ ((env.get a.slot).ep = a.ep → gval (env.get a.slot).e = some a.v))
    (hl : ∀ l ∈ B.lents, l.1 ≠ d) {e : Entry} (he : e = .val v.t v.m v.x ∨ e = .g g (.val v.t v.m v.x)) :
    RelX B G (upd (upd F (env.length + H.length) []) d (F (env.length + H.length))) H (env.put ⟨d, .all, e⟩) (ts.set d c) w := by
  have hv : vrel G w v.t v.m v.x c (F (env.length + H.length)) := R.held H.length (v, c) (by simp)
  refine R.dropHeld.setSlot hd ?_ (R.nd _) (fun j hj => ?_) (fun r hr => R.ok _ r hr) (fun g' e' h => ?_) (fun l hl' h => absurd h (hl l hl'))
  · rcases he with rfl | rfl
    · exact hv
    · simp only [slotRel, hg]; exact hv
  · by_cases h : j = env.length + H.length
    · rw [h, upd_same]; intro r _ q hq; simp at hq
    · rw [upd_other F _ h]; exact R.ap _ j (Ne.symm h)
  · rcases he with rfl | rfl
    · cases h
    · cases h; exact hch

/-- a root is turned in place: its pointer or slice stays -/
theorem RelX.setRoot (R : RelX B G F H env ts w) {G' : Nat → Prop} {r : Nat} {t : Ty} {m m2 : Md} {x x2 : t.den} {f' : List Res} {w' : World} {X : Nat → Nat → Prop} {b : Bk}
    (hr : (env.get r).e = .val t m x) (hGG : ∀ b, G b → G' b) (hGn : ∀ b, G' b → ∀ j, j ≠ r → ¬ blks (F j) b)
    (hgl : ∀ b, G' b → b < w'.heap.size ∧ (B.G0 b ∨ B.w0.heap.size ≤ b ∨ blks B.R0 b)) (hs : Turn X w w') (hG : ∀ b i, X b i → ¬ G b) (hF : ∀ b i, X b i → ∀ j, j ≠ r → ¬ blks (F j) b)
    (hX : ∀ b i, b < B.w0.heap.size → X b i → B.X0 b i) (hrep : vrel G' w' t m2 x2 (ts.getD r undef) f') (nd : ND f') (ap : ∀ j, j ≠ r → Apart f' (F j))
    (ok : ∀ q ∈ f', ¬ G' q.blk ∧ q.blk < w'.heap.size ∧ (B.w0.heap.size ≤ q.blk ∨ ∃ z ∈ B.R0, z.blk = q.blk ∧ z.lo ≤ q.lo ∧ q.hi ≤ z.hi))
    (hb : b ≠ .all → ∀ (p : List Step) (u : TV), (∀ q, b = .at q → kills q p.dropLast = false) → getP p t m x = some u → (∃ u', getP p t m2 x2 = some u' ∧ u'.t = u.t) ∧
      ∀ ad, walkV w p t (unpack t (ts.getD r undef)) = some ad → walkV w' p t (unpack t (ts.getD r undef)) = some ad ∧ ((∀ q, b = .at q → kills q p = false) → u.t.single = true → ∀ v, w.cell? ad = some v → w'.cell? ad = some v)) :
    RelX B G' (upd F r f') H (env.put ⟨r, b, .val t m2 x2⟩) ts w' := by
  obtain ⟨hlt, hroot⟩ := R.rootVal hr
  let env' := env.put ⟨r, b, .val t m2 x2⟩
  have hsame := Env.get_putB env r b (.val t m2 x2) hlt
  have hother : ∀ i, i ≠ r → env'.get i = env.get i := fun i h => Env.get_put_other env ⟨r, b, .val t m2 x2⟩ h
  have hep : ∀ i, (env.get i).ep ≤ (env'.get i).ep := fun i => by
    by_cases h : i = r
    · subst h; show _ ≤ ((env.put _).get i).ep; rw [hsame]; exact Up.on_ep _ _
    · rw [hother i h]; exact Nat.le_refl _
  have hwc : ∀ i, (env.get i).wc ≤ (env'.get i).wc := fun i => by
    by_cases h : i = r
    · subst h; show _ ≤ ((env.put _).get i).wc; rw [hsame, Up.on_wc]; simp
    · rw [hother i h]; exact Nat.le_refl _
  have henew : (env'.get r).e = .val t m2 x2 := by show ((env.put _).get r).e = _; rw [hsame, Up.on_e]
  have hfr : ∀ ep p, ep ≤ (env.get r).ep → fresh (env'.get r) ep p = true → b ≠ .all ∧ (∀ q, b = .at q → kills q p = false) ∧ fresh (env.get r) ep p = true := fun ep p hle he => by
    have he' : fresh ((env.put ⟨r, b, .val t m2 x2⟩).get r) ep p = true := he
    rw [hsame] at he'
    cases b with
    | no => exact ⟨by simp, fun q h => (by cases h), he'⟩
    | all => rw [fresh_all hle] at he'; cases he'
    | «at» q =>
      obtain ⟨h1, h2⟩ := fresh_at hle he'
      exact ⟨by simp, fun q' h => by cases h; exact h1, h2⟩
  have hfj : ∀ j, j ≠ r → ∀ q ∈ F j, ∀ i, ¬ X q.blk i := fun j hj q hq i hx => hF _ _ hx j hj ⟨q, hq, rfl⟩
  have haddr : ∀ r' ep p v f, aRel w env ts r' ep p v f → aRel w' env' ts r' ep p v f := by
    rintro r' ep p v f ⟨h1, h2, h3⟩
    refine ⟨h1, Nat.le_trans h2 (hep r'), fun he => ?_⟩
    by_cases hrr : r' = r
    · subst hrr
      obtain ⟨hna, hkq, he'⟩ := hfr ep p.dropLast h2 he
      obtain ⟨t', m', x', u, ad, hr', hu, hw, hv⟩ := h3 he'
      rw [hr] at hr'
      cases hr'
      obtain ⟨⟨u', hu', _⟩, hwk⟩ := hb hna p u hkq hu
      exact ⟨t, m2, x2, u', ad, henew, hu', (hwk ad hw).1, hv⟩
    · rw [hother r' hrr] at he ⊢
      obtain ⟨t', m', x', u, ad, hr', hu, hw, hv⟩ := h3 he
      obtain ⟨_, hrep'⟩ := R.rootVal hr'
      obtain ⟨_, _, _, _, _, _, hst⟩ := readV p t' m' x' _ _ u ad hrep'.1 hu hw
      exact ⟨t', m', x', u, ad, hr', hu, hst X w' hs.toSame (fun b i h => ⟨hG b i h, hF b i h r' hrr⟩), hv⟩
  have key : ∀ (e : Entry) (v : Value) (f : List Res), (∀ q ∈ f, ∀ i, ¬ X q.blk i) → slotRel G w env ts e v f → slotRel G' w' env' ts e v f := by
    intro e
    induction e with
    | undef => intro v f _ h; exact h
    | val t m x => intro v f hf h; exact vrel_frame hs.toSame hGG hG hf h
    | addr r' ep p => exact fun v f _ h => haddr r' ep p v f h
    | cap e r' ep ih => rintro v f _ ⟨h1, g, b, vs, p, h2, h3, h4⟩; exact ⟨h1, g, b, vs, p, ih _ _ (fun _ h => by simp at h) h2, haddr _ _ _ _ _ h3, h4⟩
    | pref r' ep wc p =>
      rintro v f _ ⟨h1, h2, h2', h3⟩
      refine ⟨h1, Nat.le_trans h2 (hep r'), Nat.le_trans h2' (hwc r'), fun he => ?_⟩
      by_cases hrr : r' = r
      · subst hrr
        obtain ⟨hna, hkq, he'⟩ := hfr ep p h2 he
        obtain ⟨t', m', x', u, hr', hu, hc⟩ := h3 he'
        rw [hr] at hr'
        cases hr'
        obtain ⟨⟨u', hu', htt⟩, hwk⟩ := hb hna p u (fun q hq => kills_drop q p (hkq q hq)) hu
        refine ⟨t, m2, x2, u', henew, hu', fun ha => ?_⟩
        · have ha' : aliasOk u' wc ((env.get r').wc + 1) = true := by
            have : ((env.put ⟨r', b, .val t m2 x2⟩).get r').wc = (env.get r').wc + 1 := by rw [hsame, Up.on_wc]
            exact this ▸ ha
          have hsing : u.t.single = true := by
            simp only [aliasOk, Bool.or_eq_true, beq_iff_eq] at ha'
            rcases ha' with h | h
            · rw [← htt]; exact h
            · omega
          obtain ⟨c, hv, hl, hp⟩ := hc (by simp [aliasOk, hsing])
          refine ⟨c, by rw [htt]; exact hv, by rw [htt]; exact hl, ?_⟩
          rcases hp with hp | ⟨ad, hw, hcc⟩
          · exact .inl hp
          · refine .inr ⟨ad, (hwk ad hw).1, fun j v' hj => ?_⟩
            have hl1 : c.length = 1 := by rw [hl]; cases hut : u.t <;> rw [hut] at hsing <;> simp [Ty.single, Ty.sz] at hsing ⊢
            have hj0 : j = 0 := by have := (List.getElem?_eq_some_iff.1 hj).1; omega
            have hcell := hcc j v' hj
            subst hj0
            have hz : ad.add 0 = ad := by simp [Addr.add]
            rw [hz] at hcell ⊢
            exact (hwk ad hw).2 hkq hsing _ hcell
      · rw [hother r' hrr] at he ⊢
        obtain ⟨t', m', x', u, hr', hu, hc⟩ := h3 he
        refine ⟨t', m', x', u, hr', hu, fun ha => ?_⟩
        obtain ⟨c, hv, hl, hp | ⟨ad, hw, hcc⟩⟩ := hc ha
        · exact ⟨c, hv, hl, .inl hp⟩
        · obtain ⟨_, hrep'⟩ := R.rootVal hr'
          obtain ⟨c1, fu, hc1, hr1, _, hbk, hst⟩ := readV p t' m' x' _ _ u ad hrep'.1 hu hw
          refine ⟨c, hv, hl, .inr ⟨ad, hst X w' hs.toSame (fun b i h => ⟨hG b i h, hF b i h r' hrr⟩), hs.toSame.cellsAt hcc (fun j _ hx => ?_)⟩⟩
          rcases hbk with hb | hb
          · exact hG _ _ hx hb
          · exact hF _ _ hx r' hrr hb
    | ref t x => rintro v f _ ⟨h1, ad, cs, h2, h3, h4, h5⟩; exact ⟨h1, ad, cs, h2, hGG _ h3, hs.toSame.cellsAt h4 (fun j _ hx => hG _ _ hx h3), rep_frame hs.toSame hGG hG _ _ _ _ _ (fun _ h => by simp at h) h5⟩
    | nq neg e => intro v f _ h; exact h
    | win e sz l h ih => rintro v f _ ⟨h1, A, n, cap, h2, h3⟩; exact ⟨h1, A, n, cap, ih _ _ (fun _ h => by simp at h) h2, h3⟩
    | tup es => rintro v f hf ⟨vs, rfl, h⟩; exact ⟨vs, rfl, tupRel_frame hs.toSame hGG hG _ _ _ hf h⟩
    | g c e ih =>
      intro v f hf h
      unfold slotRel at h ⊢
      split at h
      · exact ih v f hf h
      · exact h
  refine { len := by rw [Env.length_put]; exact R.len, slot := fun i hi => ?_, held := fun k h hk => ?_, out := fun i hi => ?_, nd := fun i => ?_, ap := fun i j hij => ?_, ok := fun i q hq => ?_,
           g0 := fun b hb => hGG b (R.g0 b hb), gl := hgl, turn := R.turn.trans hs (fun _ _ _ h => h) hX, chain := fun i g e' hi => ?_, lent := fun l hl' t' m' x' he => ?_ }
  · rw [Env.length_put] at hi
    by_cases h : i = r
    · subst h
      rw [hsame, upd_same, Up.on_e]
      exact hrep
    · rw [upd_other F f' h]
      show slotRel G' w' env' ts (env'.get i).e _ _
      rw [hother i h]
      exact key _ _ _ (hfj i h) (R.slot i hi)
  · rw [Env.length_put] at *
    rw [upd_other F f' (by omega)]
    exact vrel_frame hs.toSame hGG hG (hfj _ (by omega)) (R.held k h hk)
  · rw [Env.length_put] at hi
    rw [upd_other F f' (by omega)]
    exact R.out i hi
  · unfold upd; split
    · exact nd
    · exact R.nd i
  · unfold upd
    split <;> split
    · omega
    · rename_i h1 h2; exact ap j h2
    · rename_i h1 h2; exact fun r hr q hq => (ap i h1 q hq r hr).symm
    · exact R.ap i j hij
  · unfold upd at hq
    split at hq
    · exact ok q hq
    · rename_i hne
      exact ⟨fun hg => hGn _ hg i hne ⟨q, hq, rfl⟩, Nat.lt_of_lt_of_le (R.ok i q hq).2.1 hs.size, (R.ok i q hq).2.2⟩
  · have hi' : (env.get i).e = .g g e' := by
      by_cases h : i = r
      · subst h; rw [hsame, Up.on_e] at hi; cases hi
      · have : (env'.get i).e = .g g e' := hi
        rw [hother i h] at this; exact this
    intro a ha
    obtain ⟨h1, h2⟩ := R.chain i g e' hi' a ha
    refine ⟨Nat.le_trans h1 (hep a.slot), fun h3 => ?_⟩
    by_cases h : a.slot = r
    · rw [h] at h2 h3 ⊢
      rw [hsame] at h3 ⊢
      rw [Up.on_e]
      have h4 : (env.get r).ep = a.ep := by
        rw [h] at h1
        have := Up.on_ep ⟨r, b, .val t m2 x2⟩ (env.get r)
        omega
      have h5 := h2 h4
      rw [hr] at h5
      cases t <;> simp only [gval] at h5 ⊢ <;> try cases h5
      have h6 := hrep.1
      have h7 := hroot.1
      simp only [unpack, Ty.agg, if_false, Bool.false_eq_true, rep, List.cons.injEq, and_true] at h6 h7
      have h8 := h6.1.symm.trans h7.1
      simp only [Value.bool.injEq] at h8
      rw [h8]
    · show gval (env'.get a.slot).e = some a.v
      have h3' : (env'.get a.slot).ep = a.ep := h3
      rw [hother _ h] at h3' ⊢
      exact h2 h3'
  · by_cases h : l.1 = r
    · rw [h] at he ⊢
      rw [hsame, Up.on_e] at he
      cases he
      have := R.lent l hl' t' m x (by rw [h]; exact hr)
      rw [h] at this
      exact this
    · have he' : (env'.get l.1).e = .val (.ptr t') m' x' := he
      rw [hother _ h] at he'
      exact R.lent l hl' t' m' x' he'

end
end Go.VL

namespace Go.VL
section
variable {B : Base} {G : Nat → Prop} {F : Nat → List Res} {H : List (TV × Value)} {env : Env} {ts : List Value} {w : World}

/-- a window of a list -/
theorem vrel_window {a : Ty} {m : Md} {xs : List a.den} {A : Option Addr} {cap l h : Nat} {f : List Res} (hm : m ≠ .h) (hv : vrel G w (.list a) m xs (.slice A xs.length cap) f) (hlh : l ≤ h) (hh : h ≤ xs.length) :
    xs.length ≤ cap ∧ ∃ f', (∀ r ∈ f', ∃ q ∈ f, q.blk = r.blk ∧ q.lo ≤ r.lo ∧ r.hi ≤ q.hi) ∧ (ND f → ND f') ∧
      vrel G w (.list a) m ((xs.take h).drop l) (.slice (if cap = l then A else A.map (·.add (l * a.sz))) (h - l) (cap - l)) f' := by
  obtain ⟨hr, _⟩ := hv
  simp only [unpack, Ty.agg, if_false, Bool.false_eq_true] at hr
  have hlen : ((xs.take h).drop l).length = h - l := by simp [Nat.min_eq_left hh]
  have shared : ∀ A' cap', [Value.slice A xs.length cap] = [Value.slice A' xs.length cap'] → xs.length ≤ cap' → (∀ i (h : i < xs.length), ∃ (ad : Addr) (c : List Value), A' = some ad ∧ G ad.block ∧ cellsAt w (ad.add (i * a.sz)) c ∧ rep G w a .s xs[i] c []) →
      xs.length ≤ cap ∧ ∃ cap2, [Value.slice (if cap = l then A else A.map (·.add (l * a.sz))) (h - l) (cap - l)] = [Value.slice (if cap = l then A else A.map (·.add (l * a.sz))) ((xs.take h).drop l).length cap2] ∧ ((xs.take h).drop l).length ≤ cap2 ∧
        ∀ i (hi : i < ((xs.take h).drop l).length), ∃ (ad : Addr) (c : List Value), (if cap = l then A else A.map (·.add (l * a.sz))) = some ad ∧ G ad.block ∧ cellsAt w (ad.add (i * a.sz)) c ∧ rep G w a .s ((xs.take h).drop l)[i] c [] := by
    intro A' cap' e hc hh'
    simp only [List.cons.injEq, Value.slice.injEq, and_true, true_and] at e
    obtain ⟨rfl, rfl⟩ := e
    refine ⟨hc, cap - l, by rw [hlen], by rw [hlen]; omega, fun i hi => ?_⟩
    rw [hlen] at hi
    obtain ⟨ad, c, ha, hg, hcc, hr⟩ := hh' (l + i) (by omega)
    have hne : cap ≠ l := by omega
    refine ⟨ad.add (l * a.sz), c, by simp [hne, ha], by rw [add_block]; exact hg, ?_, by simpa using hr⟩
    rw [add_add]
    rwa [show l * a.sz + i * a.sz = (l + i) * a.sz by rw [Nat.add_mul]]
  cases m with
  | h => exact absurd rfl hm
  | s =>
    obtain ⟨⟨A', cap', e, hc, hh'⟩, rfl⟩ := hr
    obtain ⟨h1, cap2, h2, h3, h4⟩ := shared A' cap' e hc hh'
    exact ⟨h1, [], fun r hr => by simp at hr, fun _ => List.Pairwise.nil, ⟨⟨_, cap2, h2, h3, h4⟩, rfl⟩, rfl⟩
  | p _ _ =>
    obtain ⟨⟨A', cap', e, hc, hh'⟩, rfl⟩ := hr
    obtain ⟨h1, cap2, h2, h3, h4⟩ := shared A' cap' e hc hh'
    exact ⟨h1, [], fun r hr => by simp at hr, fun _ => List.Pairwise.nil, ⟨⟨_, cap2, h2, h3, h4⟩, rfl⟩, rfl⟩
  | o m =>
    rcases hr with ⟨rfl, e, rfl⟩ | ⟨b, o, cap', fs, e, hc, rfl, hsp, hrl⟩
    · simp only [List.length_nil, List.cons.injEq, Value.slice.injEq, and_true, true_and] at e
      obtain ⟨rfl, rfl⟩ := e
      refine ⟨Nat.le_refl _, [], fun r hr => by simp at hr, fun _ => List.Pairwise.nil, .inl ⟨by simp, ?_, rfl⟩, rfl⟩
      simp only [List.length_nil] at hh
      have hl0 : l = 0 := by omega
      have hh0 : h = 0 := by omega
      subst hl0 hh0
      simp [unpack, Ty.agg]
    · simp only [List.cons.injEq, Value.slice.injEq, and_true, true_and] at e
      obtain ⟨rfl, rfl⟩ := e
      -- the window's elements
      have win : ∀ (xs : List a.den) (o l h : Nat) (fs : List Res), l ≤ h → h ≤ xs.length → repL (rep G w a m) w a.sz b o xs fs → ∃ g, g.Sublist fs ∧ repL (rep G w a m) w a.sz b (o + l * a.sz) ((xs.take h).drop l) g := by
        intro xs
        induction xs with
        | nil => intro o l h fs _ _ _; exact ⟨[], List.nil_sublist _, by simp [repL]⟩
        | cons x xs ih =>
          intro o l h fs hlh hh hr
          obtain ⟨c, f1, f2, hc, hx, hl, rfl⟩ := hr
          cases h with
          | zero =>
            have : l = 0 := by omega
            subst this
            exact ⟨[], List.nil_sublist _, by simp [repL]⟩
          | succ h =>
            cases l with
            | zero =>
              obtain ⟨g, hg, hr⟩ := ih (o + a.sz) 0 h f2 (Nat.zero_le _) (by simpa using hh) hl
              refine ⟨f1 ++ g, (List.Sublist.refl _).append hg, ?_⟩
              simp only [List.take_succ_cons, List.drop_zero, Nat.zero_mul, Nat.add_zero]
              exact ⟨c, f1, g, hc, hx, by simpa using hr, rfl⟩
            | succ l =>
              obtain ⟨g, hg, hr⟩ := ih (o + a.sz) l h f2 (by omega) (by simpa using hh) hl
              refine ⟨g, hg.trans (List.sublist_append_right _ _), ?_⟩
              simp only [List.take_succ_cons, List.drop_succ_cons]
              rwa [show o + (l + 1) * a.sz = o + a.sz + l * a.sz by rw [Nat.add_mul]; omega]
      obtain ⟨g, hg, hrg⟩ := win xs o l h fs hlh hh hrl
      by_cases hcl : cap = l
      · have hl0 : (xs.take h).drop l = [] := List.eq_nil_of_length_eq_zero (by rw [hlen]; omega)
        refine ⟨hc, [⟨b, o, o + 0 * a.sz⟩], fun r hr => ?_, fun _ => by unfold ND; simp, .inr ⟨b, o, 0, [], ?_, by rw [hlen]; omega, rfl, hsp.mono (by omega), ?_⟩, rfl⟩
        · simp only [List.mem_cons, List.not_mem_nil, or_false] at hr
          subst hr
          exact ⟨⟨b, o, o + cap * a.sz⟩, by simp, rfl, Nat.le_refl _, by simp⟩
        · simp [unpack, Ty.agg, hcl, hlen]
        · rw [hl0]; rfl
      · refine ⟨hc, ⟨b, o + l * a.sz, o + l * a.sz + (cap - l) * a.sz⟩ :: g, fun r hr => ?_, fun nd => ?_, .inr ⟨b, o + l * a.sz, cap - l, g, ?_, by rw [hlen]; omega, rfl, ?_, hrg⟩, rfl⟩
        · have hmul : l * a.sz + (cap - l) * a.sz = cap * a.sz := by rw [← Nat.add_mul]; congr 1; omega
          rcases List.mem_cons.1 hr with rfl | hr
          · exact ⟨⟨b, o, o + cap * a.sz⟩, by simp, rfl, by simp, by simp; omega⟩
          · exact ⟨r, by simp [hg.subset hr], rfl, Nat.le_refl _, Nat.le_refl _⟩
        · have nd' := List.pairwise_cons.1 nd
          exact List.pairwise_cons.2 ⟨fun q hq => nd'.1 q (hg.subset hq), List.Pairwise.sublist hg nd'.2⟩
        · simp [unpack, Ty.agg, hcl, hlen, add_mk]
        · have hmul : l * a.sz + (cap - l) * a.sz = cap * a.sz := by rw [← Nat.add_mul]; congr 1; omega
          exact hsp.mono (by omega)


theorem list_len {a : Ty} {m : Md} {xs : List a.den} {A : Option Addr} {n cap : Nat} {f : List Res} (hm : m.noHole = true) (hv : vrel G w (.list a) m xs (.slice A n cap) f) : n = xs.length := by
  obtain ⟨hr, _⟩ := hv
  simp only [unpack, Ty.agg, if_false, Bool.false_eq_true] at hr
  cases m with
  | h => simp [Md.noHole] at hm
  | s => obtain ⟨⟨A', cap', e, _⟩, _⟩ := hr; simp only [List.cons.injEq, Value.slice.injEq, and_true] at e; exact e.2.1
  | p _ _ => obtain ⟨⟨A', cap', e, _⟩, _⟩ := hr; simp only [List.cons.injEq, Value.slice.injEq, and_true] at e; exact e.2.1
  | o m =>
    rcases hr with ⟨rfl, e, _⟩ | ⟨b, o, cap', fs, e, _⟩
    · simp only [List.cons.injEq, Value.slice.injEq, and_true] at e; exact e.2.1
    · simp only [List.cons.injEq, Value.slice.injEq, and_true] at e; exact e.2.1

theorem noHole_ne {m : Md} (h : m.noHole = true) : m ≠ .h := by rintro rfl; simp [Md.noHole] at h

/-- a held list is narrowed to a window of it -/
theorem RelX.narrow {a : Ty} {m : Md} {xs : List a.den} {A : Option Addr} {n cap l h : Nat} (R : RelX B G F (H ++ [(⟨.list a, m, xs⟩, .slice A n cap)]) env ts w) (hm : m.noHole = true) (hlh : l ≤ h) (hh : h ≤ n) :
    ∃ F', RelX B G F' (H ++ [(⟨.list a, m, (xs.take h).drop l⟩, .slice (if cap = l then A else A.map (·.add (l * a.sz))) (h - l) (cap - l))]) env ts w := by
  have hv : vrel G w (.list a) m xs (.slice A n cap) (F (env.length + H.length)) := R.held H.length (⟨.list a, m, xs⟩, .slice A n cap) (by simp)
  have hn := list_len hm hv
  subst hn
  obtain ⟨_, f', hf1, hf2, hvw⟩ := vrel_window (noHole_ne hm) hv hlh hh
  refine ⟨_, R.dropHeld.hold (v := ⟨.list a, m, (xs.take h).drop l⟩) hvw (hf2 (R.nd _)) (fun j q hq z hz => ?_) (fun q hq => ?_)⟩
  · unfold upd at hz
    split at hz
    · simp at hz
    · rename_i hj
      obtain ⟨q', hq', e, _⟩ := hf1 q hq
      rw [← e]
      exact R.ap _ j (Ne.symm hj) q' hq' z hz
  · obtain ⟨q', hq', e, e2, e3⟩ := hf1 q hq
    obtain ⟨k1, k2, k3⟩ := R.ok _ q' hq'
    refine ⟨e ▸ k1, e ▸ k2, ?_⟩
    rcases k3 with h | ⟨z, hz, z1, z2, z3⟩
    · exact .inl (e ▸ h)
    · exact .inr ⟨z, hz, z1.trans e, by omega, by omega⟩

end
end Go.VL

namespace Go.VL

theorem Rd.run_bind {α β ρ : Type} {c : List GI} {d : Option Nat} (x : Rd α) (f : α → Rd β) (env : Env) (K : β → Env → Option ρ) :
    (x.bind f).run c d env K = x.run c d env fun a env' => (f a).run c d env' K := by
  induction x generalizing env with
  | ret a => rfl
  | get s k ih => simp only [Rd.bind, Rd.run]; exact ih _ env
  | hrd s k ih => simp only [Rd.bind, Rd.run]; exact ih _ env
  | put u k ih =>
    simp only [Rd.bind, Rd.run]
    cases gPut c d u with
    | none => rfl
    | some u => exact ih _
  | mov u k ih =>
    simp only [Rd.bind, Rd.run]
    cases mPut c d u (env.get u.s) with
    | none => rfl
    | some u => exact ih _
  | chk b k ih => simp only [Rd.bind, Rd.run]; rw [ih]
  | call t as k ih =>
    simp only [Rd.bind, Rd.run, TE.run]
    cases decAll (t.sig.ps.map (·.t)) as with
    | none => rfl
    | some s => simp only [ih]
  | fail => rfl

theorem Rd.run_bind' {α β ρ : Type} {c : List GI} {d : Option Nat} (x : Rd α) (f : α → Rd β) (env : Env) (K : β → Env → Option ρ) :
    (x >>= f).run c d env K = x.run c d env fun a env' => (f a).run c d env' K := Rd.run_bind x f env K

section
variable {ρ α : Type} {c : List GI} {d : Option Nat} {env : Env} {r : ρ}
@[simp] theorem Rd.run_pure (a : α) (K : α → Env → Option ρ) : (pure a : Rd α).run c d env K = K a env := rfl
@[simp] theorem Rd.run_ret (a : α) (K : α → Env → Option ρ) : (Rd.ret a).run c d env K = K a env := rfl
@[simp] theorem Rd.run_slot (s : Nat) (K : Sl → Env → Option ρ) : (Rd.slot s).run c d env K = K (env.get s) env := rfl
@[simp] theorem Rd.run_hard (s : Nat) (K : Nat × Option Ty → Env → Option ρ) : (Rd.hard s).run c d env K = K (hardOf (env.get s)) env := rfl
@[simp] theorem Rd.run_fail (K : α → Env → Option ρ) : (Rd.fail : Rd α).run c d env K = none := rfl

theorem Rd.run_opt {x : Option α} {K : α → Env → Option ρ} (h : (Rd.opt x).run c d env K = some r) : ∃ a, x = some a ∧ K a env = some r := by
  cases x with
  | none => simp [Rd.opt] at h
  | some a => exact ⟨a, rfl, h⟩

theorem Rd.run_guard {b : Bool} {K : Unit → Env → Option ρ} (h : (Rd.guard b).run c d env K = some r) : b = true ∧ K () env = some r := by
  cases b with
  | false => simp [Rd.guard] at h
  | true => exact ⟨rfl, h⟩

theorem Rd.run_check (hg : gOf c = true) {b : Bool} {K : Unit → Env → Option ρ} (h : (Rd.check b).run c d env K = some r) : b = true ∧ K () env = some r := by
  have e : okB c b = b := by cases c <;> simp [okB, hg]
  simp only [Rd.check, Rd.run, e] at h
  cases b with
  | false => simp at h
  | true => exact ⟨rfl, h⟩

theorem mergeV_true (t : Ty) (y z : t.den) : mergeV t true y z = y := by
  cases t <;> try rfl
  unfold mergeV
  cases y <;> cases z <;> rfl
theorem mergeV_false (t : Ty) (y z : t.den) : mergeV t false y z = z := by
  cases t <;> try rfl
  unfold mergeV
  cases y <;> cases z <;> rfl

theorem mPut_cases {u u' : Up} {x : Sl} (h : mPut c d u x = some u') : (c = [] ∧ u' = u) ∨ (c ≠ [] ∧ u'.s = u.s ∧ u'.b = u.b ∧ (∀ e, d = some e → u.s ≠ e) ∧ (∀ a ∈ c, a.slot ≠ u.s) ∧
    ((u.e = .undef ∧ u'.e = .undef ∧ u.b = .all) ∨ ∃ t m y z, u.e = .val t m y ∧ x.e = .val t m z ∧ u'.e = .val t m (mergeV t (gOf c) y z))) := by
  cases c with
  | nil => simp only [mPut, Option.some.injEq] at h; exact .inl ⟨rfl, h.symm⟩
  | cons a c =>
    right
    simp only [mPut] at h
    split at h
    · split at h
      · rename_i hk
        simp only [Bool.and_eq_true, Bool.not_eq_true', beq_eq_false_iff_ne, List.all_eq_true] at hk
        split at h
        · rename_i he
          split at h
          · rename_i hb
            simp only [Option.some.injEq] at h
            subst h
            exact ⟨by simp, rfl, rfl, fun e h => by cases h; exact hk.1, hk.2, .inl ⟨he, he, hb⟩⟩
          · cases h
        · rename_i t m y t' m' z he hx
          split at h
          · rename_i hm
            subst hm
            obtain ⟨z', hz, rfl⟩ := Option.map_eq_some_iff.1 h
            unfold castV at hz
            split at hz
            · rename_i ht
              subst ht
              cases hz
              exact ⟨by simp, rfl, rfl, fun e h => by cases h; exact hk.1, hk.2, .inr ⟨_, _, _, _, he, hx, rfl⟩⟩
            · cases hz
          · cases h
        · cases h
      · cases h
    · cases h

theorem mPut_some (hg : gOf c = true) {u u' : Up} {x : Sl} (h : mPut c d u x = some u') : u' = u ∧ (c = [] ∨ ∀ a ∈ c, a.slot ≠ u.s) := by
  rcases mPut_cases h with ⟨h1, h2⟩ | ⟨_, h1, h2, _, h4, h5⟩
  · exact ⟨h2, .inl h1⟩
  · refine ⟨?_, .inr h4⟩
    obtain ⟨s, b, e⟩ := u
    obtain ⟨s', b', e'⟩ := u'
    simp only at h1 h2 h5
    subst h1 h2
    rcases h5 with ⟨rfl, rfl, _⟩ | ⟨t, m, y, z, rfl, _, rfl⟩
    · rfl
    · rw [hg, mergeV_true]

theorem Rd.run_moveU (hg : gOf c = true) {s : Nat} {b : Bk} {e : Entry} {K : Unit → Env → Option ρ} (h : (Rd.move s b e).run c d env K = some r) :
    (c = [] ∨ ∀ a ∈ c, (env.put ⟨s, b, e⟩).get a.slot = env.get a.slot) ∧ K () (env.put ⟨s, b, e⟩) = some r := by
  simp only [Rd.move, Rd.run] at h
  cases hm : mPut c d ⟨s, b, e⟩ (env.get s) with
  | none => simp [hm] at h
  | some u =>
    simp only [hm] at h
    obtain ⟨rfl, hk⟩ := mPut_some hg hm
    exact ⟨hk.imp id fun hk a ha => Env.get_put_other env ⟨s, b, e⟩ (hk a ha), h⟩

theorem Rd.run_set {s : Nat} {b : Bk} {e : Entry} {K : Unit → Env → Option ρ} (h : (Rd.set s b e).run c d env K = some r) :
    (c = [] ∧ K () (env.put ⟨s, b, e⟩) = some r) ∨ (c ≠ [] ∧ d = some s ∧ K () (env.put ⟨s, b, .g c e⟩) = some r) := by
  cases c with
  | nil => exact .inl ⟨rfl, h⟩
  | cons a g =>
    simp only [Rd.set, Rd.run, gPut] at h
    cases d with
    | none => simp at h
    | some d =>
      simp only at h
      cases hs : s == d with
      | false => simp [hs] at h
      | true =>
        simp only [hs] at h
        exact .inr ⟨by simp, by simpa using (beq_iff_eq.1 hs).symm, h⟩
end

/-- the slots that the chain hangs on are as they were -/
def Kept (c : List GI) (env env' : Env) : Prop := c = [] ∨ ∀ a ∈ c, env'.get a.slot = env.get a.slot
theorem Kept.refl (c : List GI) (env : Env) : Kept c env env := .inr fun _ _ => rfl
theorem Kept.trans {c : List GI} {e1 e2 e3 : Env} (h : Kept c e1 e2) (k : Kept c e2 e3) : Kept c e1 e3 := by
  rcases h with h | h
  · exact .inl h
  · rcases k with k | k
    · exact .inl k
    · exact .inr fun a ha => (k a ha).trans (h a ha)

/-- the chain's items are what stands in their slots -/
def Cur (env : Env) (c : List GI) : Prop := ∀ b ∈ c, (env.get b.slot).ep = b.ep ∧ gval (env.get b.slot).e = some b.v

theorem gOf_iff (c : List GI) : gOf c = true ↔ ∀ a ∈ c, a.ok = true := by
  induction c with
  | nil => simp [gOf]
  | cons a c ih =>
    cases c with
    | nil => simp [gOf]
    | cons b c =>
      simp only [gOf, Bool.and_eq_true] at ih ⊢
      rw [ih]
      simp

def evalO (ts : List Value) : Operand → Value
  | .tmp t => ts.getD t undef
  | .const v => v
  | .global g => .pointer (some ⟨g, 0, none⟩)
  | .func f => .func (.func f) #[] #[]

theorem eval_eq (a : Act) (o : Operand) : a.eval o = evalO a.tmps.toList o := by
  cases o with
  | tmp t => simp [Act.eval, evalO, Array.getD, List.getD]; by_cases h : t < a.tmps.size <;> simp [h]
  | _ => rfl

section
variable {B : Base} {G : Nat → Prop} {F : Nat → List Res} {H : List (TV × Value)} {env : Env} {ts : List Value} {w : World}

/-- what an operand's slot says of its value -/
def OpRel (G : Nat → Prop) (F : Nat → List Res) (env : Env) (ts : List Value) (w : World) (o : Operand) (sl : Sl) (v : Value) : Prop :=
  v = evalO ts o ∧ (sl.e = .undef ∨ match slotOf o with
    | some s => s < env.length ∧ sl.ep = (env.get s).ep ∧ sl.wc = (env.get s).wc ∧ ((env.get s).e = sl.e ∨ ∃ g, (env.get s).e = .g g sl.e ∧ gOf g = true) ∧ slotRel G w env ts sl.e v (F s)
    | none => ∃ t m x, sl.e = .val t m x ∧ vrel G w t m x v [])

theorem const_rel {t : Ty} {v : Value} {u : TV} (h : constTV t v = some u) : vrel G w u.t u.m u.x v [] := by
  unfold constTV at h
  split at h
  · split at h
    · rename_i k k' n hk
      cases h
      subst hk
      exact ⟨⟨rfl, rfl⟩, rfl⟩
    · cases h
  · cases h; exact ⟨⟨rfl, rfl⟩, rfl⟩
  · cases h; exact ⟨⟨⟨_, rfl, rfl⟩, rfl⟩, rfl⟩
  · cases h; exact ⟨.inl ⟨rfl, rfl, rfl⟩, rfl⟩
  · cases h; exact ⟨⟨rfl, rfl, rfl⟩, rfl⟩
  · cases h; exact ⟨⟨rfl, rfl⟩, rfl⟩
  · cases h

theorem chainIn_ok (R : RelX B G F H env ts w) {i : Nat} {g c : List GI} {e : Entry} (he : (env.get i).e = .g g e) (hin : chainIn g c = true) (hc : Cur env c) (hg : gOf c = true) : gOf g = true := by
  rw [gOf_iff] at hg ⊢
  intro a ha
  simp only [chainIn, List.all_eq_true, List.any_eq_true, Bool.and_eq_true, beq_iff_eq] at hin
  obtain ⟨b, hb, ⟨h1, h2⟩, h3⟩ := hin a ha
  obtain ⟨h4, h5⟩ := hc b hb
  obtain ⟨_, h6⟩ := R.chain i g e he a ha
  have h7 := h6 (by rw [h1, h4, ← h2])
  rw [h1, h5] at h7
  simp only [Option.some.injEq] at h7
  have h8 := hg b hb
  unfold GI.ok at h8 ⊢
  rw [h3, ← h7]
  exact h8

theorem opnd_run {ρ : Type} {c cc : List GI} {d : Option Nat} {ty : Option Ty} {o : Operand} {K : Sl → Env → Option ρ} {r : ρ} (R : RelX B G F H env ts w) (hc : Cur env c) (hg : gOf c = true)
    (h : (opnd c ty o).run cc d env K = some r) : ∃ sl, K sl env = some r ∧ OpRel G F env ts w o sl (evalO ts o) := by
  cases o with
  | tmp s =>
    simp only [opnd, Rd.run_bind', Rd.run_slot, useE] at h
    split at h
    · rename_i g e he
      rw [Rd.run_bind'] at h
      obtain ⟨hin, h⟩ := Rd.run_guard h
      refine ⟨_, h, rfl, ?_⟩
      by_cases hu : e = .undef
      · exact .inl hu
      · right
        have hlt := Env.get_lt he (by simp)
        have hok := chainIn_ok R he hin hc hg
        refine ⟨hlt, rfl, rfl, .inr ⟨g, he, hok⟩, ?_⟩
        have := R.slot s hlt
        rw [he] at this
        simp only [slotRel, hok] at this
        exact this
    · simp only [Rd.run_ret] at h
      refine ⟨_, h, rfl, ?_⟩
      by_cases hu : (env.get s).e = .undef
      · exact .inl hu
      · have hlt := Env.get_lt rfl hu
        exact .inr ⟨hlt, rfl, rfl, .inl rfl, R.slot s hlt⟩
  | const v =>
    simp only [opnd] at h
    obtain ⟨sl, hsl, h⟩ := Rd.run_opt h
    refine ⟨sl, h, rfl, .inr ?_⟩
    simp only [Option.map_eq_some_iff, Option.bind_eq_some_iff] at hsl
    obtain ⟨u, ⟨t, _, hu⟩, rfl⟩ := hsl
    exact ⟨u.t, u.m, u.x, rfl, const_rel hu⟩
  | func f =>
    simp only [opnd, Rd.run_ret] at h
    exact ⟨_, h, rfl, .inr ⟨_, _, _, rfl, ⟨rfl, rfl⟩, rfl⟩⟩
  | global g => simp [opnd] at h

/-- a reference's root -/
theorem root_run {ρ : Type} {c : List GI} {d : Option Nat} {s ep : Nat} {p : List Step} {K : TV × Nat → Env → Option ρ} {r : ρ} (h : (root s ep p).run c d env K = some r) :
    ∃ t m x, (env.get s).e = .val t m x ∧ fresh (env.get s) ep p = true ∧ K (⟨t, m, x⟩, (env.get s).wc) env = some r := by
  simp only [root, Rd.run_bind', Rd.run_slot] at h
  split at h
  · rename_i e wc hs t m x hsl
    rw [Rd.run_bind'] at h
    have h1 := Rd.run_guard h
    clear h
    obtain ⟨he, h⟩ := h1
    refine ⟨t, m, x, ?_, ?_, ?_⟩
    · rw [hsl]
    · rw [hsl]; exact he
    · rw [hsl]; exact h
  · simp at h

theorem place_run {ρ : Type} {c : List GI} {d : Option Nat} {s ep : Nat} {p : List Step} {K : TV → Env → Option ρ} {r : ρ} (h : (place s ep p).run c d env K = some r) :
    ∃ t m x u, (env.get s).e = .val t m x ∧ fresh (env.get s) ep p = true ∧ getP p t m x = some u ∧ K u env = some r := by
  simp only [place, Rd.run_bind'] at h
  obtain ⟨t, m, x, h1, h2, h⟩ := root_run h
  obtain ⟨u, hu, h⟩ := Rd.run_opt h
  exact ⟨t, m, x, u, h1, h2, hu, h⟩

theorem placeA_run {ρ : Type} {c : List GI} {d : Option Nat} {s ep : Nat} {p : List Step} {K : TV → Env → Option ρ} {r : ρ} (h : (placeA s ep p).run c d env K = some r) :
    ∃ t m x u, (env.get s).e = .val t m x ∧ fresh (env.get s) ep p.dropLast = true ∧ getP p t m x = some u ∧ K u env = some r := by
  simp only [placeA, Rd.run_bind'] at h
  obtain ⟨t, m, x, h1, h2, h⟩ := root_run h
  obtain ⟨u, hu, h⟩ := Rd.run_opt h
  exact ⟨t, m, x, u, h1, h2, hu, h⟩

/-- the root that an operand's value hangs on -/
def hangs (o : Operand) (e : Entry) (q : Nat) : Prop :=
  (∃ ep wc p, e = .pref q ep wc p) ∨ (∃ ep wc p sz l h, e = .win (.pref q ep wc p) sz l h) ∨ ((∃ t m x, e = .val t m x) ∧ slotOf o = some q)

theorem OpRel.ent {o : Operand} {sl : Sl} {v : Value} {e : Entry} (ho : OpRel G F env ts w o sl v) (he : sl.e = e) (hn : ∀ t m x, e ≠ .val t m x) (hu : e ≠ .undef) : ∃ f, slotRel G w env ts e v f := by
  rcases ho.2 with hu' | ho
  · exact absurd (he.symm.trans hu') hu
  · cases hs : slotOf o with
    | some s' =>
      rw [hs] at ho
      have := ho.2.2.2.2
      rw [he] at this
      exact ⟨_, this⟩
    | none =>
      rw [hs] at ho
      obtain ⟨t', m', x', he', _⟩ := ho
      rw [he] at he'
      exact absurd he' (hn _ _ _)

/-- an alias that is looked at -/
theorem peek0_pref {ρ : Type} {c : List GI} {d : Option Nat} {s ep wc : Nat} {p : List Step} {v : Value} {K : TV → Env → Option ρ} {r : ρ} (R : RelX B G F H env ts w) (hrel : slotRel G w env ts (.pref s ep wc p) v [])
    (h : (peek0 (.pref s ep wc p)).run c d env K = some r) : ∃ u f, K u env = some r ∧ vrel G w u.t u.m u.x v f ∧ s < env.length ∧ ∀ z ∈ f, z ∈ F s := by
  simp only [peek0, Rd.run_bind'] at h
  obtain ⟨t, m, x, h1, h2, h⟩ := root_run h
  obtain ⟨u, hu, h⟩ := Rd.run_opt h
  obtain ⟨ha, h⟩ := Rd.run_guard h
  simp only [Rd.run_pure] at h
  obtain ⟨_, _, _, hrel⟩ := hrel
  obtain ⟨t', m', x', u', hr', hu', hc⟩ := hrel h2
  rw [h1] at hr'
  cases hr'
  rw [hu] at hu'
  cases hu'
  obtain ⟨cs, rfl, hl, hp⟩ := hc ha
  obtain ⟨hlt, hroot⟩ := R.rootVal h1
  rcases hp with ⟨rfl, rfl⟩ | ⟨ad, hw, hcc⟩
  · simp only [getP, Option.some.injEq] at hu
    subst hu
    exact ⟨_, F s, h, vrel_pack hroot.1, hlt, fun _ h => h⟩
  · obtain ⟨c1, f, hc1, hr1, hf, _, _⟩ := readV p t m x _ _ u ad hroot.1 hu hw
    have hcc1 : cs = c1 := cellsAt_inj hcc hc1 (by rw [hl, rep_len _ _ _ _ _ hr1])
    subst hcc1
    exact ⟨u, f, h, vrel_pack hr1, hlt, hf⟩

theorem winTV_run {ρ : Type} {c : List GI} {d : Option Nat} {sz l h : Nat} {u : TV} {K : TV → Env → Option ρ} {r : ρ} (hk : (winTV sz l h u).run c d env K = some r) :
    ∃ a m xs, u = ⟨.list a, m, xs⟩ ∧ a.sz = sz ∧ m.noHole = true ∧ K ⟨.list a, m, (xs.take h).drop l⟩ env = some r := by
  unfold winTV at hk
  split at hk
  · rename_i a m xs
    rw [Rd.run_bind'] at hk
    obtain ⟨hgd, hk⟩ := Rd.run_guard hk
    simp only [Bool.and_eq_true, beq_iff_eq] at hgd
    exact ⟨a, m, xs, rfl, hgd.1, hgd.2, hk⟩
  · simp at hk

/-- what is looked at -/
theorem peek_run {ρ : Type} {c : List GI} {d : Option Nat} {o : Operand} {sl : Sl} {v : Value} {K : TV → Env → Option ρ} {r : ρ} (R : RelX B G F H env ts w) (ho : OpRel G F env ts w o sl v)
    (h : (peek sl.e).run c d env K = some r) : ∃ u f, K u env = some r ∧ vrel G w u.t u.m u.x v f ∧ (f = [] ∨ ∃ q, hangs o sl.e q ∧ q < env.length ∧ ∀ z ∈ f, ∃ y ∈ F q, y.blk = z.blk) := by
  obtain ⟨e, he⟩ : ∃ e, sl.e = e := ⟨_, rfl⟩
  rw [he] at h
  unfold peek at h
  split at h
  · rename_i q ep wc p sz l hh
    obtain ⟨f, _, A, n, cap, h2, h3, h4, rfl⟩ := ho.ent he (by simp) (by simp)
    rw [Rd.run_bind'] at h
    obtain ⟨u, f0, h, hv, hlt, hf⟩ := peek0_pref R h2 h
    obtain ⟨a, m, xs, rfl, rfl, hm, h⟩ := winTV_run h
    have hn := list_len hm hv
    subst hn
    obtain ⟨_, f', hf1, _, hvw⟩ := vrel_window (noHole_ne hm) hv h3 h4
    refine ⟨_, f', h, hvw, .inr ⟨q, .inr (.inl ⟨ep, wc, p, _, l, hh, he⟩), hlt, fun z hz => ?_⟩⟩
    obtain ⟨y, hy, e, _⟩ := hf1 z hz
    exact ⟨y, hf y hy, e⟩
  · rename_i hne
    cases e with
    | val t m x =>
      simp only [peek0, Rd.run_ret] at h
      rcases ho.2 with hu | ho
      · rw [he] at hu; cases hu
      · cases hs : slotOf o with
        | some s =>
          rw [hs] at ho
          obtain ⟨hlt, _, _, _, hrel⟩ := ho
          rw [he] at hrel
          exact ⟨⟨t, m, x⟩, F s, h, hrel, .inr ⟨s, .inr (.inr ⟨⟨t, m, x, he⟩, hs⟩), hlt, fun z h => ⟨z, h, rfl⟩⟩⟩
        | none =>
          rw [hs] at ho
          obtain ⟨t', m', x', he', hrel⟩ := ho
          rw [he] at he'
          cases he'
          exact ⟨⟨t, m, x⟩, [], h, hrel, .inl rfl⟩
    | pref s ep wc p =>
      obtain ⟨_, hrel⟩ := ho.ent he (by simp) (by simp)
      obtain ⟨u, f, h, hv, hlt, hf⟩ := peek0_pref R ⟨rfl, hrel.2⟩ h
      exact ⟨u, f, h, hv, .inr ⟨s, .inl ⟨_, _, _, he⟩, hlt, fun z hz => ⟨z, hf z hz, rfl⟩⟩⟩
    | _ => simp [peek0] at h

theorem plain_md {m : Md} (h : m.plain = true) : m = .s := by cases m <;> simp [Md.plain] at h; rfl

theorem plainV_run {ρ : Type} {c : List GI} {d : Option Nat} {o : Operand} {sl : Sl} {v : Value} {K : TV → Env → Option ρ} {r : ρ} (R : RelX B G F H env ts w) (ho : OpRel G F env ts w o sl v)
    (h : (plainV sl.e).run c d env K = some r) : ∃ t x, K ⟨t, .s, x⟩ env = some r ∧ vrel G w t .s x v [] := by
  simp only [plainV, Rd.run_bind'] at h
  obtain ⟨u, f, h, hv, _⟩ := peek_run R ho h
  obtain ⟨hm, h⟩ := Rd.run_guard h
  simp only [Rd.run_pure] at h
  obtain ⟨t, m, x⟩ := u
  have hm := plain_md hm
  simp only at hm
  subst hm
  have hf := rep_s_fp _ _ _ _ hv.1
  subst hf
  exact ⟨t, x, h, hv⟩

/-- the place that a pointer names -/
theorem asPlace_run2 {ρ : Type} {c : List GI} {d : Option Nat} {o : Operand} {sl : Sl} {v : Value} {K : Nat × Nat × List Step → Env → Option ρ} {r : ρ} (hg : gOf c = true) (R : RelX B G F H env ts w) (ho : OpRel G F env ts w o sl v)
    (h : (asPlace o sl).run c d env K = some r) : ∃ q ep p, K (q, ep, p) env = some r ∧ slotRel G w env ts (.addr q ep p) v [] ∧ boxPath o sl.e = some (q, p) := by
  unfold asPlace at h
  have ho2 : sl.e ≠ .undef → match slotOf o with
    | some s => s < env.length ∧ sl.ep = (env.get s).ep ∧ sl.wc = (env.get s).wc ∧ ((env.get s).e = sl.e ∨ ∃ g, (env.get s).e = .g g sl.e ∧ gOf g = true) ∧ slotRel G w env ts sl.e v (F s)
    | none => ∃ t m x, sl.e = .val t m x ∧ vrel G w t m x v [] := fun hu => ho.2.resolve_left hu
  split at h
  · rename_i q ep p he
    simp only [Rd.run_ret] at h
    refine ⟨q, ep, p, h, ?_, by rw [he]; rfl⟩
    have := ho2 (by rw [he]; simp)
    cases hs : slotOf o with
    | some s => rw [hs] at this; have := this.2.2.2.2; rw [he] at this; exact ⟨rfl, this.2⟩
    | none => rw [hs] at this; obtain ⟨t', m', x', he', _⟩ := this; rw [he] at he'; cases he'
  · rename_i a m x he
    cases hs : slotOf o with
    | none => simp [hs] at h
    | some s =>
      simp only [hs, Rd.run_bind'] at h
      obtain ⟨t0, m0, x0, h0, _, h⟩ := root_run h
      obtain ⟨hsome, h⟩ := Rd.run_check hg h
      simp only [Rd.run_ret] at h
      have := ho2 (by rw [he]; simp)
      rw [hs] at this
      obtain ⟨hlt, hep, _, hent, hrel⟩ := this
      rw [he] at hrel hent
      refine ⟨s, sl.ep, [.der], h, ⟨rfl, by rw [hep]; exact Nat.le_refl _, fun _ => ?_⟩, by rw [he]; simp [boxPath, hs]⟩
      have hv := hrel
      obtain ⟨hr, hpk⟩ := hrel
      simp only [unpack, Ty.agg, if_false, Bool.false_eq_true] at hr hpk
      obtain ⟨y, b, oo, cc, f, rfl, hcs, _, _, _, _⟩ := hr
      simp only [List.cons.injEq, and_true] at hcs
      have hval : v = ts.getD s undef := by
        have := ho.1
        cases o <;> simp only [slotOf] at hs <;> try cases hs
        exact this
      rcases hent with hent | ⟨g, hent, _⟩
      · refine ⟨.ptr a, .o m, some y, ⟨a, m, y⟩, ⟨b, oo, none⟩, hent, by simp [getP], ?_, hcs⟩
        rw [← hval, hcs]
        simp [unpack, Ty.agg, walkV, walkA]
      · rw [h0] at hent; cases hent
  · rename_i q ep wc p he
    rw [Rd.run_bind'] at h
    obtain ⟨t, m, x, u, h1, h2, hu, h⟩ := place_run h
    split at h
    · rename_i a m2 y
      rw [Rd.run_bind'] at h
      obtain ⟨hsome, h⟩ := Rd.run_check hg h
      rw [Rd.run_bind'] at h
      simp only [Rd.run_slot, Rd.run_ret] at h
      have := ho2 (by rw [he]; simp)
      cases hs : slotOf o with
      | none => rw [hs] at this; obtain ⟨t', m', x', he', _⟩ := this; rw [he] at he'; cases he'
      | some s =>
        rw [hs] at this
        have hrel := this.2.2.2.2
        rw [he] at hrel
        obtain ⟨_, hle, _, hrel⟩ := hrel
        refine ⟨q, (env.get q).ep, p ++ [.der], h, ⟨rfl, Nat.le_refl _, fun _ => ?_⟩, by rw [he]; rfl⟩
        obtain ⟨t', m', x', u', hr', hu', hc⟩ := hrel h2
        rw [h1] at hr'
        cases hr'
        rw [hu] at hu'
        cases hu'
        obtain ⟨cs, rfl, hl, hp⟩ := hc (by simp [aliasOk, Ty.single])
        obtain ⟨hlt, hroot⟩ := R.rootVal h1
        rcases hp with ⟨rfl, rfl⟩ | ⟨ad, hw, hcc⟩
        · simp only [getP, Option.some.injEq, TV.mk.injEq] at hu
          obtain ⟨rfl, rfl, hxy⟩ := hu
          cases hxy
          have hr := hroot.1
          simp only [unpack, Ty.agg, if_false, Bool.false_eq_true] at hr
          obtain ⟨z, b, oo, cc, f, rfl, hcs, _⟩ := hr
          simp only [List.cons.injEq, and_true] at hcs
          refine ⟨.ptr a, .o m2, some z, ⟨a, m2, z⟩, ⟨b, oo, none⟩, h1, by simp [getP], ?_, ?_⟩
          · rw [hcs]; simp [unpack, Ty.agg, walkV, walkA]
          · simp only [pack, unpack, Ty.agg, if_false, Bool.false_eq_true, List.headD_cons]
            exact hcs
        · obtain ⟨c1, f, hc1, hr1, hf, _, _⟩ := readV p t m x _ _ _ ad hroot.1 hu hw
          have hcc1 : cs = c1 := cellsAt_inj hcc hc1 (by rw [hl, rep_len _ _ _ _ _ hr1])
          subst hcc1
          obtain ⟨z, b, oo, cc, f, hz, rfl, _⟩ := hr1
          simp only at hz
          subst hz
          refine ⟨t, m, x, ⟨a, m2, z⟩, ⟨b, oo, none⟩, h1, ?_, ?_, rfl⟩
          · rw [getP_append, hu]; simp [getP]
          · rw [walkV_append p [.der] t m x _ _ ad hu hw]
            have h0 : w.cell? ad = some (.pointer (some ⟨b, oo, none⟩)) := by
              have := hc1 0 _ rfl
              simpa [Addr.add] using this
            simp [walkA, h0]
    · simp at h
  · simp at h

theorem asPlace_run {ρ : Type} {c : List GI} {d : Option Nat} {o : Operand} {sl : Sl} {v : Value} {K : Nat × Nat × List Step → Env → Option ρ} {r : ρ} (hg : gOf c = true) (R : RelX B G F H env ts w) (ho : OpRel G F env ts w o sl v)
    (h : (asPlace o sl).run c d env K = some r) : ∃ q ep p, K (q, ep, p) env = some r ∧ slotRel G w env ts (.addr q ep p) v [] := by
  obtain ⟨q, ep, p, h1, h2, _⟩ := asPlace_run2 hg R ho h
  exact ⟨q, ep, p, h1, h2⟩

end
end Go.VL
