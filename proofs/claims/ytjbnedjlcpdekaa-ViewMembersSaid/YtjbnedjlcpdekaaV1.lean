import Derived.Calls
import Derived.Orders
import Derived.KernelRfl
import Derived.Laws.World
import Derived.Laws.Cells
import Derived.Below

namespace Go.VL

/-! ### Types and native values -/
inductive Ty where
  | int (k : IntKind) | bool | str | unit | pair (a b : Ty) | list (a : Ty) | arr (n : Nat) (a : Ty) | ptr (a : Ty) | fn
  deriving DecidableEq

@[reducible] def Ty.den : Ty → Type
  | .int _ => Int
  | .bool => Bool
  | .str => List Int
  | .unit => Unit
  | .pair a b => a.den × b.den
  | .list a => List a.den
  | .arr _ a => List a.den
  | .ptr a => Option a.den
  | .fn => Option Nat

def Ty.zero : (t : Ty) → t.den
  | .int _ => (0 : Int)
  | .bool => false
  | .str => ([] : List Int)
  | .unit => ()
  | .pair a b => (a.zero, b.zero)
  | .list _ => []
  | .arr n a => List.replicate n a.zero
  | .ptr _ => none
  | .fn => none

def Ty.dep : Ty → Nat
  | .pair a b => a.dep + b.dep + 1
  | .arr _ a => a.dep + 1
  | _ => 1

def Ty.sz : Ty → Nat
  | .unit => 0
  | .pair a b => a.sz + b.sz
  | .arr n a => n * a.sz
  | _ => 1

def Ty.agg : Ty → Bool
  | .unit | .pair _ _ | .arr _ _ => true
  | _ => false

/-- Marks: s shared (never written again), o owned, h moved out, p for pairs. -/
inductive Md where
  | s | h | o (m : Md) | p (a b : Md)
  deriving DecidableEq

def Md.l : Md → Md | .p a _ => a | m => m
def Md.r : Md → Md | .p _ b => b | m => m
def Md.e : Md → Md | .o m => m | m => m
def Md.mk : Md → Md → Md | .s, .s => .s | a, b => .p a b
def Md.oo : Md → Md | .s => .s | m => .o m
def Md.plain : Md → Bool | .s => true | _ => false
def Md.noHole : Md → Bool | .h => false | .s => true | .o m => m.noHole | .p a b => a.noHole && b.noHole
def zmd : Ty → Md
  | .pair a b => Md.mk (zmd a) (zmd b)
  | .list _ => .o .s
  | .arr _ a => (zmd a).oo
  | _ => .s

structure TV where
  t : Ty
  m : Md
  x : t.den

inductive Step where
  | fst | snd | idx (i : Int) | der

def getP : List Step → (t : Ty) → Md → t.den → Option TV
  | [], t, m, x => some ⟨t, m, x⟩
  | .fst :: p, .pair a _, m, x => getP p a m.l x.1
  | .snd :: p, .pair _ b, m, x => getP p b m.r x.2
  | .idx i :: p, .list a, .o m, x => getP p a m (x.getD i.toNat a.zero)
  | .idx i :: p, .list a, .s, x => getP p a .s (x.getD i.toNat a.zero)
  | .idx i :: p, .arr _ a, m, x => getP p a m.e (x.getD i.toNat a.zero)
  | .der :: p, .ptr a, .o m, x => getP p a m (x.getD a.zero)
  | _, _, _, _ => none

def castV {t : Ty} (t' : Ty) (x : t.den) : Option t'.den := if h : t = t' then some (h ▸ x) else none

def setP : List Step → (t : Ty) → Md → t.den → TV → Option (Md × t.den)
  | [], t, _, _, v => (castV t v.x).map fun y => (v.m, y)
  | .fst :: p, .pair a _, m, x, v => (setP p a m.l x.1 v).map fun r => (Md.mk r.1 m.r, (r.2, x.2))
  | .snd :: p, .pair _ b, m, x, v => (setP p b m.r x.2 v).map fun r => (Md.mk m.l r.1, (x.1, r.2))
  | .idx i :: p, .list a, .o m, x, v => (setP p a m (x.getD i.toNat a.zero) v).bind fun r => if r.1 = m then some (.o m, x.set i.toNat r.2) else none
  | .idx i :: p, .arr _ a, m, x, v => (setP p a m.e (x.getD i.toNat a.zero) v).bind fun r => if r.1 = m.e then some (m, x.set i.toNat r.2) else none
  | .der :: p, .ptr a, .o m, x, v => (setP p a m (x.getD a.zero) v).map fun r => (.o r.1, some r.2)
  | _, _, _, _, _ => none

/-- may it be shared from now on? -/
def frz : Ty → Md → Bool
  | .list a, m => match m with
    | .o m => frz a m
    | .h => false
    | _ => true
  | .ptr _, m => match m with
    | .o _ | .h => false
    | _ => true
  | .pair a b, m => frz a m.l && frz b m.r
  | .arr _ a, m => frz a m.e
  | _, _ => true

def coeOk : (t : Ty) → Md → Md → t.den → Bool
  | .pair a b, m, m', x => if m = m' then true else match m' with
    | .s => frz (.pair a b) m
    | _ => coeOk a m.l m'.l x.1 && coeOk b m.r m'.r x.2
  | .list a, m, m', x => if m = m' then true else match m', m with
    | .s, _ => frz (.list a) m
    | .o _, .o _ => x.isEmpty
    | _, _ => false
  | .ptr a, m, m', x => if m = m' then true else match m', m, x with
    | .s, _, _ => frz (.ptr a) m
    | .o m2, .o m1, some y => coeOk a m1 m2 y
    | _, _, _ => false
  | t, m, m', _ => if m = m' then true else match m' with
    | .s => frz t m
    | _ => false

/-- nothing in it is shared -/
def noS : Ty → Md → Bool
  | .list a, m => match m with
    | .o m => noS a m
    | _ => false
  | .ptr a, m => match m with
    | .o m => noS a m
    | .s => true
    | _ => false
  | .pair a b, m => noS a m.l && noS b m.r
  | .arr _ a, m => noS a m.e
  | _, _ => true

/-- One item of a guard's chain: the slot of the guard and its count of writes, what is wanted, the guard's own value. -/
structure GI where
  slot : Nat
  ep : Nat
  want : Bool
  v : Bool

inductive Entry where
  | undef
  | val (t : Ty) (m : Md) (x : t.den)
  | addr (r ep : Nat) (p : List Step)
  | pref (r ep wc : Nat) (p : List Step)
  | ref (t : Ty) (x : t.den)
  | nq (neg e : Bool)
  | tup (es : List TV)
  | g (c : List GI) (e : Entry)

/-- A slot: how often its lists or itself were replaced, how often it was written at all, and what it holds. -/
structure Sl where
  ep : Nat
  wc : Nat
  e : Entry

abbrev Env := List Sl
def Env.get (e : Env) (s : Nat) : Sl := e.getD s ⟨0, 0, .undef⟩

/-- one write: the slot, whether references into it fall, what it holds now -/
structure Up where
  s : Nat
  b : Bool
  e : Entry
def Up.on (u : Up) (x : Sl) : Sl := ⟨match u.b with | true => x.ep + 1 | false => x.ep, x.wc + 1, u.e⟩
def Env.put (e : Env) (u : Up) : Env := e.set u.s (u.on (e.get u.s))

/-! ### What an operation does: reads slots, checks, calls -/
structure PK where
  io : Bool
  t : Ty
  m : Md
  m' : Md

structure Sig where
  ps : List PK
  rs : List (Ty × Md)

@[reducible] def denAll : List Ty → Type
  | [] => Unit
  | t :: ts => t.den × denAll ts

/-- the results, then what the pointers' contents are afterwards -/
def Sig.outs (g : Sig) : List (Ty × Md) := g.rs ++ (g.ps.filter (·.io)).map fun p => (p.t, p.m')

@[reducible] def Sig.S (g : Sig) : Type := denAll (g.ps.map (·.t))
@[reducible] def Sig.R (g : Sig) : Type := denAll (g.outs.map (·.1))

structure TE where
  sig : Sig
  F : sig.S → Option sig.R

def decAll : (ts : List Ty) → List TV → Option (denAll ts)
  | [], [] => some ()
  | t :: ts, v :: vs => (castV t v.x).bind fun x => (decAll ts vs).map fun r => (x, r)
  | _, _ => none

def encAll : (l : List (Ty × Md)) → denAll (l.map (·.1)) → List TV
  | [], _ => []
  | (t, m) :: l, r => ⟨t, m, r.1⟩ :: encAll l r.2

def zAll : (ts : List Ty) → denAll ts
  | [] => ()
  | t :: ts => (t.zero, zAll ts)

abbrev Tab := Nat → Option TE

inductive Rd (α : Type) where
  | ret (a : α)
  | get (s : Nat) (k : Sl → Rd α)
  | put (u : Up) (k : Rd α)
  | mov (u : Up) (k : Rd α)
  | chk (b : Bool) (k : Rd α)
  | call (f : TE) (as : List TV) (k : List TV → Rd α)
  | fail

def Rd.bind {α β : Type} : Rd α → (α → Rd β) → Rd β
  | .ret a, f => f a
  | .get s k, f => .get s fun e => (k e).bind f
  | .put u k, f => .put u (k.bind f)
  | .mov u k, f => .mov u (k.bind f)
  | .chk b k, f => .chk b (k.bind f)
  | .call t as k, f => .call t as fun r => (k r).bind f
  | .fail, _ => .fail

instance : Monad Rd where
  pure := .ret
  bind := Rd.bind

/-- a call's native function; under a guard that does not hold nothing is called -/
def TE.run (f : TE) (g : Bool) (as : List TV) {ρ : Type} (K : List TV → Option ρ) : Option ρ :=
  match decAll (f.sig.ps.map (·.t)) as with
  | none => none
  | some s => Option.bind (bif g then f.F s else some (zAll (f.sig.outs.map (·.1)))) fun r => K (encAll f.sig.outs r)

def GI.ok (a : GI) : Bool := match a.want with | true => a.v | false => !a.v
def gOf : List GI → Bool
  | [] => true
  | [a] => a.ok
  | a :: g => a.ok && gOf g

/-- A guarded operation writes its own slot alone, and what it writes is valid under its guard. -/
def gPut (c : List GI) (d : Option Nat) (u : Up) : Option Up :=
  match c with
  | [] => some u
  | _ => match d with
    | some d => match u.s == d with | true => some ⟨u.s, u.b, .g c u.e⟩ | false => none
    | none => none

/-- what is checked need hold only under the guard -/
def okB (c : List GI) (b : Bool) : Bool := match c with | [] => b | _ => b || !gOf c

/-- Under a guard a slot may only be forgotten, and none that the chain hangs on. -/
def mPut (c : List GI) (d : Option Nat) (u : Up) : Option Up :=
  match c with
  | [] => some u
  | _ => match u.e, u.b, d with
    | .undef, true, some d => match !(u.s == d) && c.all fun a => !(a.slot == u.s) with | true => some u | false => none
    | _, _, _ => none

/-- A run: under the chain of guards c, for an operation that writes d. -/
def Rd.run {α ρ : Type} (c : List GI) (d : Option Nat) : Rd α → Env → (α → Env → Option ρ) → Option ρ
  | .ret a, env, K => K a env
  | .get s k, env, K => (k (env.get s)).run c d env K
  | .put u k, env, K => match gPut c d u with
    | some u => k.run c d (env.put u) K
    | none => none
  | .mov u k, env, K => match mPut c d u with
    | some u => k.run c d (env.put u) K
    | none => none
  | .chk b k, env, K => bif okB c b then k.run c d env K else none
  | .call t as k, env, K => t.run (gOf c) as fun r => (k r).run c d env K
  | .fail, _, _ => none

def Rd.opt {α : Type} : Option α → Rd α
  | some a => .ret a
  | none => .fail
def Rd.guard (b : Bool) : Rd Unit := match b with | true => .ret () | false => .fail
def Rd.check (b : Bool) : Rd Unit := .chk b (.ret ())
def Rd.slot (s : Nat) : Rd Sl := .get s .ret
def Rd.set (s : Nat) (b : Bool) (e : Entry) : Rd Unit := .put ⟨s, b, e⟩ (.ret ())
/-- a slot that is no operation's target turns: under no guard -/
def Rd.move (s : Nat) (b : Bool) (e : Entry) : Rd Unit := .mov ⟨s, b, e⟩ (.ret ())

/-! ### Operands -/
structure Ctx where
  ty : TypeId → Option Ty
  eqs : TypeId → Bool
  tab : Tab

def Md.idx : Md → Bool
  | .s | .o _ => true
  | _ => false

def constTV : Ty → Value → Option TV
  | .int k, .int k' n => if k = k' then some ⟨.int k, .s, n⟩ else none
  | .bool, .bool b => some ⟨.bool, .s, b⟩
  | .str, .string s => some ⟨.str, .s, s.data.toList.map fun b => (b.toNat : Int)⟩
  | .list a, .slice none 0 0 => some ⟨.list a, .o .s, []⟩
  | .ptr a, .pointer none => some ⟨.ptr a, .s, none⟩
  | .fn, .nilFunc => some ⟨.fn, .s, none⟩
  | _, _ => none

def chainIn (g c : List GI) : Bool := g.all fun a => c.any fun b => a.slot == b.slot && a.ep == b.ep && a.want == b.want

/-- what was written under guards is there where these hold -/
def useE (c : List GI) (x : Sl) : Rd Sl :=
  match x.e with
  | .g cc e => do Rd.guard (chainIn cc c); .ret ⟨x.ep, x.wc, e⟩
  | _ => .ret x

/-- an operand's slot; a constant is one by the type that is expected -/
def opnd (c : List GI) (t : Option Ty) : Operand → Rd Sl
  | .tmp s => do let x ← .slot s; useE c x
  | .const v => .opt (((t.bind fun t => constTV t v)).map fun v => ⟨0, 0, .val v.t v.m v.x⟩)
  | .func f => .ret ⟨0, 0, .val .fn .s (some f)⟩
  | .global _ => .fail

def Ty.hasList : Ty → Bool
  | .list _ | .ptr _ => true
  | .pair a b => a.hasList || b.hasList
  | .arr _ a => a.hasList
  | _ => false

/-- one cell that holds an address -/
def Ty.single : Ty → Bool
  | .list _ | .ptr _ => true
  | _ => false

/-- the root of a reference, its count held against the reference's -/
def root (r ep : Nat) : Rd (TV × Nat) := do
  match ← Rd.slot r with
  | ⟨e, wc, .val t m x⟩ => do Rd.guard (e == ep); pure (⟨t, m, x⟩, wc)
  | _ => .fail

def place (r ep : Nat) (p : List Step) : Rd TV := do
  let v ← root r ep
  Rd.opt (getP p v.1.t v.1.m v.1.x)

/-- an alias is good while nothing was written; that of one cell with an address, while no such cell was written -/
def aliasOk (v : TV) (wc wc' : Nat) : Bool := v.t.single || wc == wc'

/-- what an operand holds, to look at: nothing is moved -/
def peek : Entry → Rd TV
  | .val t m x => .ret ⟨t, m, x⟩
  | .pref r ep wc p => do
    let w ← root r ep
    let v ← Rd.opt (getP p w.1.t w.1.m w.1.x)
    Rd.guard (aliasOk v wc w.2)
    pure v
  | _ => .fail

def plainV (e : Entry) : Rd TV := do
  let v ← peek e
  Rd.guard v.m.plain
  pure v

def slotOf : Operand → Option Nat
  | .tmp s => some s
  | _ => none

/-- what an operand holds, to be put elsewhere: what is owned is moved out of its place -/
def take (o : Operand) : Entry → Rd TV
  | .val t m x => match m.plain, slotOf o with
    | false, some s => do Rd.move s true .undef; pure ⟨t, m, x⟩
    | _, _ => pure ⟨t, m, x⟩
  | .addr r ep [.der] => do
    let v ← root r ep
    Rd.move r true .undef
    pure v.1
  | .pref r ep wc p => do
    let w ← root r ep
    let v ← Rd.opt (getP p w.1.t w.1.m w.1.x)
    Rd.guard (v.m.noHole && aliasOk v wc w.2)
    match p with
    | [] => do
      Rd.move r true .undef
      pure v
    | _ => do
      let n ← Rd.opt (setP p w.1.t w.1.m w.1.x ⟨v.t, .h, v.x⟩)
      Rd.move r true (.val w.1.t n.1 n.2)
      pure v
  | _ => .fail

/-- the place that a pointer names -/
def asPlace (o : Operand) (x : Sl) : Rd (Nat × Nat × List Step) :=
  match x.e with
  | .addr r ep p => .ret (r, ep, p)
  | .val (.ptr _) (.o _) v => match slotOf o with
    | some s => do
      let _ ← root s x.ep
      Rd.check v.isSome
      .ret (s, x.ep, [.der])
    | none => .fail
  | .pref r ep _ p => do
    match ← place r ep p with
    | ⟨.ptr _, .o _, v⟩ => do Rd.check v.isSome; .ret (r, ep, p ++ [.der])
    | _ => .fail
  | _ => .fail

/-- put a value into a place -/
def putPlace (r ep : Nat) (p : List Step) (v : TV) (always : Bool) : Rd Unit := do
  let w ← root r ep
  let n ← Rd.opt (setP p w.1.t w.1.m w.1.x v)
  Rd.move r (always || v.t.hasList) (.val w.1.t n.1 n.2)

def stepsOf : Nat → List Step
  | 0 => [.fst]
  | n + 1 => .snd :: stepsOf n

/-! ### Arithmetic -/
def iand (k : IntKind) (x y : Int) : Int := k.wrap (BitVec.ofInt k.bits x &&& BitVec.ofInt k.bits y).toNat
def ior (k : IntKind) (x y : Int) : Int := k.wrap (BitVec.ofInt k.bits x ||| BitVec.ofInt k.bits y).toNat
def ixor (k : IntKind) (x y : Int) : Int := k.wrap (BitVec.ofInt k.bits x ^^^ BitVec.ofInt k.bits y).toNat
def iandNot (k : IntKind) (x y : Int) : Int := k.wrap (BitVec.ofInt k.bits x &&& ~~~BitVec.ofInt k.bits y).toNat
def ishl (k : IntKind) (x y : Int) : Int := k.wrap (x * 2 ^ (min y.toNat k.bits))
def ishr (k : IntKind) (x y : Int) : Int := x.fdiv (2 ^ (min y.toNat k.bits))

def eqv : (t : Ty) → t.den → t.den → Bool
  | .int _, x, y => @decide (x = y) (inferInstanceAs (Decidable ((x : Int) = y)))
  | .bool, x, y => @BEq.beq Bool _ x y
  | .str, x, y => @BEq.beq (List Int) _ x y
  | .unit, _, _ => true
  | .pair a b, x, y => eqv a x.1 y.1 && eqv b x.2 y.2
  | .arr _ a, x, y => List.all (List.zip x y) fun z => eqv a z.1 z.2
  | _, _, _ => false

def Ty.eqOk : Ty → Bool
  | .int _ | .bool | .str | .unit => true
  | .pair a b => a.eqOk && b.eqOk
  | .arr _ a => a.eqOk
  | _ => false

/-- what must hold, and the result -/
def binV (op : BinOp) (a b : TV) : Option (Bool × TV) :=
  match op, a, b with
  | .add, ⟨.int k, _, x⟩, ⟨.int k', _, y⟩ => if k = k' then some (true, ⟨.int k, .s, k.wrap (x + y)⟩) else none
  | .sub, ⟨.int k, _, x⟩, ⟨.int k', _, y⟩ => if k = k' then some (true, ⟨.int k, .s, k.wrap (x - y)⟩) else none
  | .mul, ⟨.int k, _, x⟩, ⟨.int k', _, y⟩ => if k = k' then some (true, ⟨.int k, .s, k.wrap (x * y)⟩) else none
  | .quo, ⟨.int k, _, x⟩, ⟨.int k', _, y⟩ => if k = k' then some (!decide ((y : Int) = 0), ⟨.int k, .s, k.wrap (Int.tdiv x y)⟩) else none
  | .rem, ⟨.int k, _, x⟩, ⟨.int k', _, y⟩ => if k = k' then some (!decide ((y : Int) = 0), ⟨.int k, .s, Int.tmod x y⟩) else none
  | .and, ⟨.int k, _, x⟩, ⟨.int k', _, y⟩ => if k = k' then some (true, ⟨.int k, .s, iand k x y⟩) else none
  | .or, ⟨.int k, _, x⟩, ⟨.int k', _, y⟩ => if k = k' then some (true, ⟨.int k, .s, ior k x y⟩) else none
  | .xor, ⟨.int k, _, x⟩, ⟨.int k', _, y⟩ => if k = k' then some (true, ⟨.int k, .s, ixor k x y⟩) else none
  | .andNot, ⟨.int k, _, x⟩, ⟨.int k', _, y⟩ => if k = k' then some (true, ⟨.int k, .s, iandNot k x y⟩) else none
  | .shl, ⟨.int k, _, x⟩, ⟨.int _, _, y⟩ => some (decide ((0 : Int) ≤ y), ⟨.int k, .s, ishl k x y⟩)
  | .shr, ⟨.int k, _, x⟩, ⟨.int _, _, y⟩ => some (decide ((0 : Int) ≤ y), ⟨.int k, .s, ishr k x y⟩)
  | .lss, ⟨.int k, _, x⟩, ⟨.int k', _, y⟩ => if k = k' then some (true, ⟨.bool, .s, decide ((x : Int) < y)⟩) else none
  | .leq, ⟨.int k, _, x⟩, ⟨.int k', _, y⟩ => if k = k' then some (true, ⟨.bool, .s, decide ((x : Int) ≤ y)⟩) else none
  | .gtr, ⟨.int k, _, x⟩, ⟨.int k', _, y⟩ => if k = k' then some (true, ⟨.bool, .s, decide ((y : Int) < x)⟩) else none
  | .geq, ⟨.int k, _, x⟩, ⟨.int k', _, y⟩ => if k = k' then some (true, ⟨.bool, .s, decide ((y : Int) ≤ x)⟩) else none
  | .eql, ⟨t, _, x⟩, ⟨_, _, y⟩ => if t.eqOk then (castV t y).map fun y => (true, ⟨.bool, .s, eqv t x y⟩) else none
  | .neq, ⟨t, _, x⟩, ⟨_, _, y⟩ => if t.eqOk then (castV t y).map fun y => (true, ⟨.bool, .s, !(eqv t x y)⟩) else none
  | _, _, _ => none

def unV (op : UnOp) (a : TV) : Option TV :=
  match op, a with
  | .not, ⟨.bool, _, x⟩ => some ⟨.bool, .s, !x⟩
  | .neg, ⟨.int k, _, x⟩ => some ⟨.int k, .s, k.wrap (0 - x)⟩
  | _, _ => none

def convV (t : Ty) (a : TV) : Option TV :=
  match t, a with
  | .int k, ⟨.int _, _, x⟩ => some ⟨.int k, .s, k.wrap x⟩
  | .str, ⟨.str, _, x⟩ => some ⟨.str, .s, x⟩
  | _, _ => none

end Go.VL

namespace Go.VL

def coe (v : TV) (m : Md) : Rd TV := do
  Rd.check (coeOk v.t v.m m v.x)
  pure ⟨v.t, m, v.x⟩

/-- the parts of a literal, put into its zero value -/
def buildP (c : List GI) : List (Nat × Operand) → TV → Rd TV
  | [], v => pure v
  | (i, o) :: ps, v => do
    let w ← Rd.opt (getP (stepsOf i) v.t v.m v.x)
    let sl ← opnd c (some w.t) o
    let a ← take o sl.e
    let n ← Rd.opt (setP (stepsOf i) v.t v.m v.x a)
    buildP c ps ⟨v.t, n.1, n.2⟩

def buildL (c : List GI) (a : Ty) (m : Md) : Nat → List (Nat × Operand) → Rd (List a.den)
  | _, [] => pure []
  | n, (i, o) :: ps => do
    Rd.guard (i == n)
    let sl ← opnd c (some a) o
    let v ← take o sl.e
    let w ← coe v m
    let x ← Rd.opt (castV a w.x)
    let r ← buildL c a m (n + 1) ps
    pure (x :: r)

/-- from now on the operand's value is shared -/
def share (o : Operand) (sl : Sl) : Rd TV :=
  match sl.e with
  | .val _ _ _ => match slotOf o with
    | some s => do
      let w ← root s sl.ep
      Rd.guard (frz w.1.t w.1.m)
      Rd.move s true (.val w.1.t .s w.1.x)
      pure ⟨w.1.t, .s, w.1.x⟩
    | none => .fail
  | .pref r ep wc p => do
    let w ← root r ep
    let v ← Rd.opt (getP p w.1.t w.1.m w.1.x)
    Rd.guard (frz v.t v.m && aliasOk v wc w.2)
    let n ← Rd.opt (setP p w.1.t w.1.m w.1.x ⟨v.t, .s, v.x⟩)
    Rd.move r true (.val w.1.t n.1 n.2)
    pure ⟨v.t, .s, v.x⟩
  | _ => .fail

/-- first what a call is given to keep -/
def argsO (c : List GI) : List PK → List Operand → Rd (List TV)
  | [], [] => pure []
  | k :: ks, o :: os => match k.io || k.m.plain with
    | true => argsO c ks os
    | false => do
      let sl ← opnd c (some k.t) o
      let v ← take o sl.e
      let w ← coe v k.m
      let r ← argsO c ks os
      pure (w :: r)
  | _, _ => .fail

/-- Then what a call is shown: what is owned is lent, and the roots of what is lent are told;
  if the call may hand on what it was shown (fr), it is shared from now on. -/
def argsP (c : List GI) (fr : Bool) : List PK → List Operand → Rd (List TV × List Nat)
  | [], [] => pure ([], [])
  | k :: ks, o :: os => match !k.io && k.m.plain with
    | false => argsP c fr ks os
    | true => do
      let sl ← opnd c (some k.t) o
      let v ← peek sl.e
      match v.m.plain, fr with
      | false, true => do
        let v ← share o sl
        let r ← argsP c fr ks os
        pure (v :: r.1, r.2)
      | pl, _ => do
        Rd.guard (frz v.t v.m)
        let r ← argsP c fr ks os
        pure (⟨v.t, .s, v.x⟩ :: r.1, match pl, sl.e with
          | true, _ => r.2
          | false, .pref q _ _ _ => q :: r.2
          | false, _ => (slotOf o).toList ++ r.2)
  | _, _ => .fail

/-- the places that are handed to a call by pointers: their contents, and where they are -/
def argsIO (c : List GI) : List PK → List Operand → Rd (List TV × List (Nat × Nat × List Step))
  | [], [] => pure ([], [])
  | k :: ks, o :: os => match k.io with
    | false => argsIO c ks os
    | true => do
      let sl ← opnd c (some (.ptr k.t)) o
      let pl ← asPlace o sl
      let v ← place pl.1 pl.2.1 pl.2.2
      let w ← coe v k.m
      let r ← argsIO c ks os
      pure (w :: r.1, pl :: r.2)
  | _, _ => .fail

/-- what is kept, what is shown, what lies behind pointers: one list -/
def merge : List PK → List TV → List TV → List TV → List TV
  | [], _, _, _ => []
  | k :: ks, us, vs, ws => match k.io, k.m.plain with
    | true, _ => (match ws with | w :: ws => w :: merge ks us vs ws | [] => [])
    | false, true => (match vs with | v :: vs => v :: merge ks us vs ws | [] => [])
    | false, false => (match us with | u :: us => u :: merge ks us vs ws | [] => [])

def backs : List (Nat × Nat × List Step) → List TV → Rd Unit
  | [], [] => pure ()
  | p :: ps, v :: vs => do
    putPlace p.1 p.2.1 p.2.2 v true
    backs ps vs
  | _, _ => .fail

def callSem (C : Ctx) (c : List GI) (f : Nat) (os : List Operand) (d : Option Nat) : Rd Unit := do
  let te ← Rd.opt (C.tab f)
  let us ← argsO c te.sig.ps os
  let a ← argsP c (!te.sig.outs.all fun o => noS o.1 o.2) te.sig.ps os
  let b ← argsIO c te.sig.ps os
  let rts := b.2.map (·.1)
  Rd.guard (decide rts.Nodup && rts.all fun r => !a.2.contains r)
  let r ← Rd.call te (merge te.sig.ps us a.1 b.1) .ret
  let n := te.sig.rs.length
  backs b.2 (r.drop n)
  match d, r.take n with
  | none, [] => pure ()
  | some d, [] => Rd.set d true .undef
  | some d, [v] => Rd.set d true (.val v.t v.m v.x)
  | some d, vs => Rd.set d true (.tup vs)
  | _, _ => .fail

def bound (c : List GI) (dflt : Int) : Option Operand → Rd Int
  | none => pure dflt
  | some o => do
    let sl ← opnd c (some (.int .i64)) o
    match ← plainV sl.e with
    | ⟨.int .i64, _, x⟩ => pure x
    | _ => .fail

/-- a list compared with nil: is it 'not equal'? -/
def isNilC (op : BinOp) (t : Option Ty) (y : Operand) : Option Bool :=
  match op, t, y with
  | .eql, some (.list _), .const (.slice none 0 0) => some false
  | .neq, some (.list _), .const (.slice none 0 0) => some true
  | _, _, _ => none

/-- an operation: what it does to the slots -/
def opSem (C : Ctx) (c : List GI) (o : Oper) : Rd Unit :=
  match o.op, o.dst with
  | .move x, some d => do
    let sl ← opnd c (C.ty o.type) x
    match sl.e, slotOf x with
    | .val t m v, some s => match m.plain with
      | true => Rd.set d true (.val t m v)
      | false => do
        let _ ← root s sl.ep
        Rd.set d true (.pref s sl.ep sl.wc [])
    | .val t m v, none => Rd.set d true (.val t m v)
    | .addr r e p, _ => Rd.set d true (.addr r e p)
    | .pref r e w p, _ => Rd.set d true (.pref r e w p)
    | .ref t x, _ => Rd.set d true (.ref t x)
    | .tup es, some s => do
      Rd.guard c.isEmpty
      Rd.move s true .undef
      Rd.set d true (.tup es)
    | _, _ => .fail
  | .assign x, some d => do
    let sl ← opnd c (C.ty o.type) x
    match sl.e with
    | .addr r e p => Rd.set d true (.addr r e p)
    | .ref t x => Rd.set d true (.ref t x)
    | e => do
      let v ← take x e
      Rd.set d true (.val v.t v.m v.x)
  | .pick cc a b, some d => do
    let sc ← opnd c (some .bool) cc
    match sc.e with
    | .val .bool m x => do
      Rd.guard m.plain
      let g (w : Bool) : List GI := match slotOf cc with | some s => ⟨s, sc.ep, w, x⟩ :: c | none => c
      let sa ← opnd (g true) (C.ty o.type) a
      let sb ← opnd (g false) (C.ty o.type) b
      let va ← plainV sa.e
      let vb ← plainV sb.e
      let y ← Rd.opt (castV va.t vb.x)
      Rd.set d true (.val va.t .s (bif x then va.x else y))
    | _ => .fail
  | .alloc T, some d => do
    let t ← Rd.opt (C.ty T)
    Rd.set d true (.val (.ptr t) (.o (zmd t)) (some t.zero))
  | .box T x, some d => do
    let t ← Rd.opt (C.ty T)
    let sl ← opnd c (some t) x
    let v ← take x sl.e
    let y ← Rd.opt (castV t v.x)
    Rd.set d true (.val (.ptr t) (.o v.m) (some y))
  | .build T ps, some d => do
    let t ← Rd.opt (C.ty T)
    match t with
    | .pair _ _ => do
      let v ← buildP c ps.toList ⟨t, zmd t, t.zero⟩
      Rd.set d true (.val v.t v.m v.x)
    | .arr n a => do
      Rd.guard (decide (ps.size ≤ n) && (zmd a).plain)
      let v ← buildL c a .s 0 ps.toList
      Rd.set d true (.val (.arr n a) .s (v ++ List.replicate (n - ps.size) a.zero))
    | _ => .fail
  | .buildSlice T n ps, some d => do
    match C.ty T with
    | some (.list a) => do
      Rd.guard (ps.size == n && decide (n * a.sz ≤ 16777216))
      let v ← buildL c a .s 0 ps.toList
      Rd.set d true (.val (.list a) (.o .s) v)
    | _ => .fail
  | .load T x, some d => do
    let t ← Rd.opt (C.ty T)
    let sl ← opnd c none x
    match sl.e with
    | .ref t0 x0 => do
      let y ← Rd.opt (castV (t := t0) t x0)
      Rd.set d true (.val t .s y)
    | _ => do
      let pl ← asPlace x sl
      let w ← root pl.1 pl.2.1
      let v ← Rd.opt (getP pl.2.2 w.1.t w.1.m w.1.x)
      Rd.guard v.m.noHole
      match v.m.plain with
      | true => do
        let y ← Rd.opt (castV t v.x)
        Rd.set d true (.val t .s y)
      | false => do
        Rd.guard (decide (v.t = t))
        Rd.set d true (.pref pl.1 pl.2.1 w.2 pl.2.2)
  | .store T x y, none => do
    let t ← Rd.opt (C.ty T)
    let sy ← opnd c (some t) y
    let v ← take y sy.e
    let sl ← opnd c none x
    let pl ← asPlace x sl
    Rd.guard (decide (v.t = t))
    putPlace pl.1 pl.2.1 pl.2.2 v false
  | .nilCheck x, some d => do
    let sl ← opnd c none x
    match sl.e with
    | .ref t0 x0 => Rd.set d true (.ref t0 x0)
    | _ => do
      let pl ← asPlace x sl
      let _ ← root pl.1 pl.2.1
      Rd.set d true (.addr pl.1 pl.2.1 pl.2.2)
  | .fieldAddr T x f, some d => do
    let t ← Rd.opt (C.ty T)
    let sl ← opnd c none x
    match sl.e with
    | .ref t0 x0 => do
      Rd.guard (decide (t0 = t))
      let v ← Rd.opt (getP (stepsOf f) t0 .s x0)
      Rd.guard v.m.plain
      Rd.set d true (.ref v.t v.x)
    | _ => do
      let pl ← asPlace x sl
      let v ← place pl.1 pl.2.1 pl.2.2
      Rd.guard (decide (v.t = t))
      let _ ← Rd.opt (getP (stepsOf f) v.t v.m v.x)
      Rd.set d true (.addr pl.1 pl.2.1 (pl.2.2 ++ stepsOf f))
  | .indexAddr T x i, some d => do
    let t ← Rd.opt (C.ty T)
    let si ← opnd c (some (.int .i64)) i
    match ← plainV si.e, t with
    | ⟨.int _, _, (j : Int)⟩, .list a => do
      let sl ← opnd c none x
      match ← peek sl.e with
      | ⟨.list b, m, xs⟩ => do
        Rd.guard (decide (a = b) && m.idx)
        Rd.check (decide ((0 : Int) ≤ j) && decide ((j : Int) < (xs.length : Int)))
        match m.plain with
        | true => Rd.set d true (.ref b (xs.getD j.toNat b.zero))
        | false => match sl.e, slotOf x with
          | .val _ _ _, some s => do
            let _ ← root s sl.ep
            Rd.set d true (.addr s sl.ep [.idx j])
          | .pref r ep _ p, _ => Rd.set d true (.addr r ep (p ++ [.idx j]))
          | _, _ => .fail
      | _ => .fail
    | ⟨.int _, _, (j : Int)⟩, .arr n a => do
      let sl ← opnd c none x
      match sl.e with
      | .ref t0 x0 => do
        let y ← Rd.opt (castV (t := t0) (.arr n a) x0)
        Rd.check (decide ((0 : Int) ≤ j) && decide ((j : Int) < (n : Int)))
        Rd.set d true (.ref a ((y : List a.den).getD j.toNat a.zero))
      | _ => do
        let pl ← asPlace x sl
        let v ← place pl.1 pl.2.1 pl.2.2
        Rd.guard (decide (v.t = .arr n a) && v.m.noHole)
        Rd.check (decide ((0 : Int) ≤ j) && decide ((j : Int) < (n : Int)))
        Rd.set d true (.addr pl.1 pl.2.1 (pl.2.2 ++ [.idx j]))
    | _, _ => .fail
  | .slice T x lo hi none, some d => do
    match C.ty T with
    | some (.list a) => do
      let sl ← opnd c (some (.list a)) x
      match ← take x sl.e with
      | ⟨.list b, m, xs⟩ => do
        Rd.guard (m.noHole && decide (b = a))
        let h ← bound c xs.length hi
        let l ← bound c 0 lo
        Rd.check (decide ((0 : Int) ≤ l) && decide (l ≤ h) && decide (h ≤ (xs.length : Int)))
        Rd.set d true (.val (.list b) m ((xs.take h.toNat).drop l.toNat))
      | _ => .fail
    | _ => .fail
  | .extract x i, some d => do
    match slotOf x with
    | some s => do
      match (← Rd.slot s).e with
      | .tup es => do
        let v ← Rd.opt es[i]?
        match v.m.plain with
        | true => Rd.set d true (.val v.t v.m v.x)
        | false => do
          Rd.guard v.m.noHole
          Rd.move s true (.tup (es.set i ⟨v.t, .h, v.x⟩))
          Rd.set d true (.val v.t v.m v.x)
      | _ => .fail
    | none => .fail
  | .binOp op T x y T', some d => do
    let sx ← opnd c (C.ty T) x
    match isNilC op (C.ty T) y with
    | some neg => do
      let v ← peek sx.e
      Rd.guard (decide (C.ty T = some v.t))
      match v with
      | ⟨.list _, m, xs⟩ => do
        Rd.guard m.idx
        Rd.set d true (.nq neg xs.isEmpty)
      | _ => .fail
    | none => do
      let sy ← opnd c (C.ty (match op with | .shl | .shr => T' | _ => T)) y
      let a ← plainV sx.e
      let b ← plainV sy.e
      Rd.guard (match op with | .eql | .neq => decide (C.ty T = some a.t) && C.eqs T && decide (a.t.dep ≤ 10000) | _ => true)
      let r ← Rd.opt (binV op a b)
      Rd.check r.1
      Rd.set d true (.val r.2.t r.2.m r.2.x)
  | .unOp op T x, some d => do
    let sx ← opnd c (C.ty T) x
    let a ← plainV sx.e
    let r ← Rd.opt (unV op a)
    Rd.set d true (.val r.t r.m r.x)
  | .convert S T x, some d => do
    let t ← Rd.opt (C.ty T)
    let sx ← opnd c (C.ty S) x
    let a ← plainV sx.e
    Rd.guard (decide (C.ty S = some a.t))
    let r ← Rd.opt (convV t a)
    Rd.set d true (.val r.t r.m r.x)
  | .call ⟨.value (.func f), as, _⟩, d => callSem C c f as.toList d
  | .call ⟨.value (.tmp s), as, _⟩, d => do
    let sl ← opnd c none (.tmp s)
    match sl.e with
    | .val .fn _ (some f) => callSem C c f as.toList d
    | _ => .fail
  | .call ⟨.builtin .len, as, ts⟩, some d => do
    match as.toList, ts.toList with
    | [x], [T] => do
      let t ← Rd.opt (C.ty T)
      let sl ← opnd c (some t) x
      let v ← peek sl.e
      Rd.guard (decide (v.t = t))
      match v with
      | ⟨.list _, m, xs⟩ => do
        Rd.guard m.noHole
        Rd.set d true (.val (.int .i64) .s (xs.length : Int))
      | ⟨.str, _, xs⟩ => Rd.set d true (.val (.int .i64) .s (xs.length : Int))
      | _ => .fail
    | _, _ => .fail
  | .call ⟨.builtin .append, as, ts⟩, some d => do
    match as.toList, ts.toList with
    | [x, y], [T, T'] => match C.ty T, C.ty T' with
     | some (.list a), some (.list _) => do
      let sx ← opnd c (some (.list a)) x
      match ← take x sx.e with
      | ⟨.list b, .o .s, xs⟩ => do
        let sy ← opnd c (some (.list a)) y
        match ← peek sy.e with
        | ⟨.list b', m', ys⟩ => do
          Rd.guard (decide (b = a) && m'.e.plain)
          let zs ← Rd.opt (castV (.list b) (t := .list b') ys)
          Rd.check (decide (xs.length + (zs : List b.den).length < 1073741824))
          Rd.set d true (.val (.list b) (.o .s) (xs ++ zs))
        | _ => .fail
      | _ => .fail
     | _, _ => .fail
    | _, _ => .fail
  | .call ⟨.builtin .max, as, _⟩, some d => do
    match as.toList with
    | [x, y] => do
      let sx ← opnd c (C.ty o.type) x
      let sy ← opnd c (C.ty o.type) y
      match ← plainV sx.e, ← plainV sy.e with
      | ⟨.int k, _, a⟩, ⟨.int k', _, b⟩ => do
        Rd.guard (decide (k = k'))
        Rd.set d true (.val (.int k) .s (bif decide ((a : Int) < b) then b else a))
      | _, _ => .fail
    | _ => .fail
  | .call ⟨.builtin .min, as, _⟩, some d => do
    match as.toList with
    | [x, y] => do
      let sx ← opnd c (C.ty o.type) x
      let sy ← opnd c (C.ty o.type) y
      match ← plainV sx.e, ← plainV sy.e with
      | ⟨.int k, _, a⟩, ⟨.int k', _, b⟩ => do
        Rd.guard (decide (k = k'))
        Rd.set d true (.val (.int k) .s (bif decide ((b : Int) < a) then b else a))
      | _, _ => .fail
    | _ => .fail
  | _, _ => .fail

/-- the items of a chain must be what stands in their slots now -/
def current : List GI → Rd Unit
  | [] => pure ()
  | a :: g => do
    let x ← Rd.slot a.slot
    Rd.guard (x.ep == a.ep)
    current g

/-- the chain of guards of an operation of a region: of it hangs whether it is carried out -/
def chainOf (ops : Array Oper) (o : Oper) : Rd (List GI) :=
  match o.guard with
  | none => pure []
  | some (j, want) => match (ops[j]?).bind (·.dst) with
    | some s => do
      let x ← Rd.slot s
      match x.e with
      | .val .bool _ v => pure [⟨s, x.ep, want, v⟩]
      | .g g (.val .bool _ v) => do
        current g
        pure (⟨s, x.ep, want, v⟩ :: g)
      | _ => .fail
    | none => .fail

def runOp {ρ : Type} (C : Ctx) (ops : Array Oper) (o : Oper) (env : Env) (K : Env → Option ρ) : Option ρ :=
  (chainOf ops o).run [] none env fun c env => match c, o.dst with
    | [], _ => (opSem C [] o).run [] o.dst env fun _ env' => K env'
    | a :: c, some d => match (a :: c).all fun b => !(b.slot == d) with
      | true => (opSem C (a :: c) o).run (a :: c) o.dst env fun _ env' => (match (env'.get d).ep == (env.get d).ep + 1 && (env'.get d).wc == (env.get d).wc + 1 with | true => K env' | false => none)
      | false => none
    | _, _ => none

def runOps {ρ : Type} (C : Ctx) (ops : Array Oper) : List Oper → Env → (Env → Option ρ) → Option ρ
  | [], env, K => K env
  | o :: os, env, K => runOp C ops o env fun env' => runOps C ops os env' K

/-! ### Regions that may run in any order: what an operation reads and writes is traced -/
def Rd.runT {α ρ : Type} (c : List GI) (d : Option Nat) : Rd α → Env → Nat → Nat → (α → Env → Nat → Nat → Option ρ) → Option ρ
  | .ret a, env, R, W, K => K a env R W
  | .get s k, env, R, W, K => (k (env.get s)).runT c d env (R ||| 2 ^ s) W K
  | .put u k, env, R, W, K => match gPut c d u with
    | some u => k.runT c d (env.put u) R (W ||| 2 ^ u.s) K
    | none => none
  | .mov u k, env, R, W, K => match mPut c d u with
    | some u => k.runT c d (env.put u) R (W ||| 2 ^ u.s) K
    | none => none
  | .chk b k, env, R, W, K => bif okB c b then k.runT c d env R W K else none
  | .call t as k, env, R, W, K => t.run (gOf c) as fun r => (k r).runT c d env R W K
  | .fail, _, _, _, _ => none

def runOpT {ρ : Type} (C : Ctx) (ops : Array Oper) (o : Oper) (env : Env) (K : Env → Nat → Nat → Option ρ) : Option ρ :=
  (chainOf ops o).runT [] none env 0 0 fun c env R W => match c, o.dst with
    | [], _ => (opSem C [] o).runT [] o.dst env R W fun _ env' R W => K env' R W
    | a :: c, some d => match (a :: c).all fun b => !(b.slot == d) with
      | true => (opSem C (a :: c) o).runT (a :: c) o.dst env R (W ||| 2 ^ d) fun _ env' R W => (match (env'.get d).ep == (env.get d).ep + 1 && (env'.get d).wc == (env.get d).wc + 1 with | true => K env' R W | false => none)
      | false => none
    | _, _ => none

/-- an operation behind which this one comes in any order, straight or by others -/
def behind (acc : List (Nat × Nat × Nat)) (o : Oper) : Nat :=
  o.after.toList.foldl (fun m e => match Region.binds .any e with | true => m ||| 2 ^ e.on ||| (acc.getD e.on (0, 0, 0)).1 | false => m) 0

def apart2 (R W R' W' : Nat) : Bool := W &&& (R' ||| W') == 0 && W' &&& (R ||| W) == 0

def indepAll (M R W : Nat) : List (Nat × Nat × Nat) → Nat → Bool
  | [], _ => true
  | x :: acc, j => (M.testBit j || apart2 R W x.2.1 x.2.2) && indepAll M R W acc (j + 1)

def runOpsT {ρ : Type} (C : Ctx) (ops : Array Oper) : List Oper → List (Nat × Nat × Nat) → Env → (Env → Option ρ) → Option ρ
  | [], _, env, K => K env
  | o :: os, acc, env, K => match o.after.toList.all fun e => !Region.binds .any e || decide (e.on < acc.length) with
    | true => runOpT C ops o env fun env' R W => match indepAll (behind acc o) R W acc 0 with
      | true => runOpsT C ops os (acc ++ [(behind acc o, R, W)]) env' K
      | false => none
    | false => none

/-! ### Shapes: which slots are kept, and of what kind -/
inductive SP where
  | fst | snd | idx | der
  deriving DecidableEq

inductive Sh where
  | va (t : Ty) (m : Md)
  | bo (t : Ty) (m : Md)
  | ad (r : Nat) (p : List SP)
  | pr (r : Nat) (p : List SP)
  | rf (t : Ty)
  | fu (n : Nat)

@[reducible] def idxs : List SP → Type
  | [] => Unit
  | .idx :: p => Int × idxs p
  | .fst :: p => idxs p
  | .snd :: p => idxs p
  | .der :: p => idxs p

def decPath : (p : List SP) → List Step → Option (idxs p)
  | [], [] => some ()
  | .idx :: p, .idx i :: q => (decPath p q).map fun r => (i, r)
  | .fst :: p, .fst :: q => decPath p q
  | .snd :: p, .snd :: q => decPath p q
  | .der :: p, .der :: q => decPath p q
  | _, _ => none

def encPath : (p : List SP) → idxs p → List Step
  | [], _ => []
  | .idx :: p, i => .idx i.1 :: encPath p i.2
  | .fst :: p, i => .fst :: encPath p i
  | .snd :: p, i => .snd :: encPath p i
  | .der :: p, i => .der :: encPath p i

@[reducible] def Sh.den : Sh → Type
  | .va t _ => t.den
  | .bo t _ => t.den
  | .ad _ p => idxs p
  | .pr _ p => idxs p
  | .rf t => t.den
  | .fu _ => Unit

def Sh.enc : (h : Sh) → h.den → Entry
  | .va t m, x => .val t m x
  | .bo t m, x => .val (.ptr t) (.o m) (some x)
  | .ad r p, i => .addr r 0 (encPath p i)
  | .pr r p, i => .pref r 0 0 (encPath p i)
  | .rf t, x => .ref t x
  | .fu n, _ => .val .fn .s (some n)

def Sh.dec (env : Env) : (h : Sh) → Entry → Option h.den
  | .va t m, .val t' m' x => match coeOk t' m' m x with | true => castV t x | false => none
  | .bo t m, .val (.ptr t') (.o m') (some x) => match coeOk t' m' m x with | true => castV t x | false => none
  | .ad r p, .addr r' ep q => match r == r' && ep == (env.get r).ep with | true => decPath p q | false => none
  | .pr r p, .pref r' ep wc q => match r == r' && ep == (env.get r).ep && wc == (env.get r).wc with | true => decPath p q | false => none
  | .rf t, .ref t' x => castV (t := t') t x
  | .fu n, .val .fn _ (some n') => match n == n' with | true => some () | false => none
  | _, _ => none

abbrev Shape := List (Nat × Sh)
@[reducible] def Shape.S : Shape → Type
  | [] => Unit
  | (_, h) :: l => h.den × Shape.S l

def Shape.decL (env : Env) : (l : Shape) → Option l.S
  | [] => some ()
  | (s, h) :: l => (h.dec env (env.get s).e).bind fun x => (Shape.decL env l).map fun r => (x, r)

def Shape.encOn : (l : Shape) → l.S → Env → Env
  | [], _, env => env
  | (s, h) :: l, x, env => Shape.encOn l x.2 (env.set s ⟨0, 0, h.enc x.1⟩)

def Shape.enc (n : Nat) (l : Shape) (x : l.S) : Env := l.encOn x (List.replicate n ⟨0, 0, .undef⟩)

/-- a reference's path is good in what is kept of its root -/
def refOk (env : Env) (r : Nat) (p : List Step) : Bool :=
  match (env.get r).e with
  | .val t m x => (getP p t m x).isSome
  | _ => false

def Shape.refs (env : Env) : Shape → Bool
  | [] => true
  | (s, .ad _ _) :: l => (match (env.get s).e with | .addr r _ p => refOk env r p | _ => false) && Shape.refs env l
  | (s, .pr _ _) :: l => (match (env.get s).e with | .pref r _ _ p => refOk env r p | _ => false) && Shape.refs env l
  | _ :: l => Shape.refs env l

def Shape.dec (n : Nat) (env : Env) (l : Shape) : Option l.S :=
  (l.decL env).bind fun x => match l.refs (l.enc n x) with | true => some x | false => none

/-! ### Code -/
inductive Ex where
  | normal | exit (id : Nat) | ret
  deriving DecidableEq

@[reducible] def Outs : List (Ex × Shape) → Type
  | [] => Empty
  | [x] => x.2.S
  | x :: y :: l => x.2.S ⊕ Outs (y :: l)

def Outs.dec (n : Nat) (env : Env) (ex : Ex) : (l : List (Ex × Shape)) → Option (Outs l)
  | [] => none
  | [x] => if x.1 = ex then x.2.dec n env else none
  | x :: y :: l => if x.1 = ex then (x.2.dec n env).map .inl else (Outs.dec n env ex (y :: l)).map .inr

def elimO {ρ : Type} (n : Nat) (K : Ex → Env → Option ρ) : (l : List (Ex × Shape)) → Outs l → Option ρ
  | [], e => e.elim
  | [x], s => K x.1 (x.2.enc n s)
  | x :: y :: l, o => Sum.elim (fun s => K x.1 (x.2.enc n s)) (fun o => elimO n K (y :: l) o) o

inductive AC where
  | rg | nx
  | sq (a b : AC)
  | cd (a b : AC)
  | bk (a : AC)
  | lp (sh : Shape) (os : List (Ex × Shape)) (f : sh.S → Option (sh.S ⊕ Outs os)) (a : AC)
  | sm (sh : Shape) (os : List (Ex × Shape)) (f : sh.S → Option (Outs os)) (a : AC)

def iterO {S O : Type} (f : S → Option (S ⊕ O)) : Nat → S → Option O
  | 0, _ => none
  | k + 1, s => (f s).bind (Sum.elim (iterO f k) some)

open Classical in
/-- both must be the same -/
noncomputable def agree {α : Type} (a b : Option α) : Option α := if a = b then a else none

theorem agree_eq {α : Type} {a b : Option α} {r : α} (h : agree a b = some r) : a = some r ∧ b = some r := by
  unfold agree at h
  split at h
  · rename_i e; exact ⟨h, e ▸ h⟩
  · cases h
@[simp] theorem agree_self {α : Type} (a : Option α) : agree a a = a := by simp [agree]

noncomputable def ev (C : Ctx) (k n : Nat) : AC → Code → {ρ : Type} → Env → (Ex → Env → Option ρ) → Option ρ
  | .rg, .region _ ops false, _, env, K => runOps C ops ops.toList env (K .normal)
  | .rg, .region _ ops true, _, env, K => runOpsT C ops ops.toList [] env (K .normal)
  | .nx, .skip, _, env, K => K .normal env
  | .nx, .ret, _, env, K => K .ret env
  | .nx, .exit id, _, env, K => K (.exit id) env
  | .sq a b, .seq x y, _, env, K => ev C k n a x env fun ex e => match ex with | .normal => ev C k n b y e K | ex => K ex e
  | .cd a b, .cond o x y, _, env, K => (opnd [] (some .bool) o).run [] none env fun sl env => match sl.e with
      | .nq false e => agree (ev C k n b y env K) (bif e then ev C k n a x env K else ev C k n b y env K)
      | .nq true e => agree (ev C k n a x env K) (bif e then ev C k n b y env K else ev C k n a x env K)
      | se => (plainV se).run [] none env fun v env => match v with
        | ⟨.bool, _, v⟩ => bif v then ev C k n a x env K else ev C k n b y env K
        | _ => none
  | .bk a, .block id x, _, env, K => ev C k n a x env fun ex e => match ex with | .exit id' => (if id' = id then K .normal e else K (.exit id') e) | ex => K ex e
  | .lp sh os f _, .loop _, _, env, K => (sh.dec n env).bind fun s => (iterO f k s).bind fun o => elimO n K os o
  | .sm sh os f _, _, _, env, K => (sh.dec n env).bind fun s => (f s).bind fun o => elimO n K os o
  | _, _, _, _, _ => none

def finL (n : Nat) (sh : Shape) (os : List (Ex × Shape)) (ex : Ex) (e : Env) : Option (sh.S ⊕ Outs os) :=
  match ex with
  | .normal => (sh.dec n e).map .inl
  | ex => (Outs.dec n e ex os).map .inr

/-- each loop's and each summary's native function is what its code does -/
def AC.ok (C : Ctx) (k n : Nat) : AC → Code → Prop
  | .sq a b, .seq x y => AC.ok C k n a x ∧ AC.ok C k n b y
  | .cd a b, .cond _ x y => AC.ok C k n a x ∧ AC.ok C k n b y
  | .bk a, .block _ x => AC.ok C k n a x
  | .lp sh os f a, .loop x => (∀ s, ev C k n a x (sh.enc n s) (finL n sh os) = f s) ∧ AC.ok C k n a x
  | .sm sh os f a, x => (∀ s, ev C k n a x (sh.enc n s) (fun ex e => Outs.dec n e ex os) = f s) ∧ AC.ok C k n a x
  | _, _ => True

/-! ### Functions -/
def paramsOn : (ps : List PK) → denAll (ps.map (·.t)) → Nat → Env → Env
  | [], _, _, env => env
  | p :: ps, x, i, env => paramsOn ps x.2 (i + 1) (env.set i ⟨0, 0, match p.io with | true => .val (.ptr p.t) (.o p.m) (some x.1) | false => .val p.t p.m x.1⟩)

/-- the results' values, one behind the other -/
def resOne (C : Ctx) : ResultVar → Rd TV
  | .tmp s => do
    let sl ← opnd [] none (.tmp s)
    take (.tmp s) sl.e
  | .cell s T => do
    let w ← Rd.slot s
    match w.e with
    | .val (.ptr t) (.o m) (some y) => do
      Rd.guard (decide (C.ty T = some t) && m.noHole)
      Rd.move s true .undef
      pure ⟨t, m, y⟩
    | _ => .fail

def resR (C : Ctx) : List ResultVar → List (Ty × Md) → Rd (List TV)
  | [], [] => pure []
  | r :: rs, (_, m) :: l => do
    let v ← resOne C r
    let w ← coe v m
    let q ← resR C rs l
    pure (w :: q)
  | _, _ => .fail

/-- what the pointers' contents are at the end -/
def iosR : List PK → Nat → Rd (List TV)
  | [], _ => pure []
  | p :: ps, i => match p.io with
    | false => iosR ps (i + 1)
    | true => do
      let sl ← Rd.slot i
      match sl.e with
      | .val (.ptr t) (.o m) (some x) => do
        Rd.move i true .undef
        let _ ← coe ⟨.ptr t, .o m, some x⟩ (.o p.m')
        let q ← iosR ps (i + 1)
        pure (⟨t, p.m', x⟩ :: q)
      | _ => .fail

def finR (C : Ctx) (g : Sig) (rv : List ResultVar) (ex : Ex) (e : Env) : Option g.R :=
  match ex with
  | .exit _ => none
  | _ => (resR C rv g.rs).run [] none e fun q e => (iosR g.ps 0).run [] none e fun w _ => decAll (g.outs.map (·.1)) (q ++ w)

noncomputable def fnEv (C : Ctx) (k : Nat) (g : Sig) (fn : Func) (c : Code) (a : AC) (s : g.S) : Option g.R :=
  ev C k fn.ntmps a c (paramsOn g.ps s 0 (List.replicate fn.ntmps ⟨0, 0, .undef⟩)) (finR C g fn.results.toList)

end Go.VL

namespace Go.VL

/-! ### How native values lie in memory -/
structure Res where
  blk : Nat
  lo : Nat
  hi : Nat

def pack (t : Ty) (cs : List Value) : Value := if t.agg then .agg cs.toArray else cs.headD undef

def cellsAt (w : World) (ad : Addr) (cs : List Value) : Prop := ∀ j v, cs[j]? = some v → w.cell? (ad.add j) = some v

def spanOk (w : World) (b hi : Nat) : Prop := ∃ (c : Array Value) (e : TypeId), w.heap[b]? = some (Obj.cells c e (0, 0)) ∧ hi ≤ c.size

/-- elements that lie one behind the other in memory -/
def repL {α : Type} (R : α → List Value → List Res → Prop) (w : World) (sz b : Nat) : Nat → List α → List Res → Prop
  | _, [], fs => fs = []
  | o, x :: xs, fs => ∃ c f1 f2, cellsAt w ⟨b, o, none⟩ c ∧ R x c f1 ∧ repL R w sz b (o + sz) xs f2 ∧ fs = f1 ++ f2

/-- elements one behind the other in a value -/
def repA {α : Type} (R : α → List Value → List Res → Prop) : List α → List Value → List Res → Prop
  | [], cs, fs => cs = [] ∧ fs = []
  | x :: xs, cs, fs => ∃ c1 c2 f1 f2, R x c1 f1 ∧ repA R xs c2 f2 ∧ cs = c1 ++ c2 ∧ fs = f1 ++ f2

def bytesV (s : ByteArray) : List Int := s.data.toList.map fun b => (b.toNat : Int)

def rep (G : Nat → Prop) (w : World) : (t : Ty) → Md → t.den → List Value → List Res → Prop
  | .int k, _, x, cs, fp => cs = [.int k x] ∧ fp = []
  | .bool, _, x, cs, fp => cs = [.bool x] ∧ fp = []
  | .str, _, x, cs, fp => (∃ s, cs = [.string s] ∧ x = bytesV s) ∧ fp = []
  | .unit, _, _, cs, fp => cs = [] ∧ fp = []
  | .fn, _, x, cs, fp => (match x with | none => cs = [.nilFunc] | some f => cs = [.func (.func f) #[] #[]]) ∧ fp = []
  | .pair a b, m, x, cs, fp => ∃ c1 c2 f1 f2, rep G w a m.l x.1 c1 f1 ∧ rep G w b m.r x.2 c2 f2 ∧ cs = c1 ++ c2 ∧ fp = f1 ++ f2
  | .arr n a, m, x, cs, fp => x.length = n ∧ repA (rep G w a m.e) x cs fp
  | .list a, m, x, cs, fp =>
    match m with
    | .h => (∃ A l c, cs = [.slice A l c]) ∧ fp = []
    | .o m => (x = [] ∧ cs = [.slice none 0 0] ∧ fp = []) ∨
        ∃ b o cap fs, cs = [.slice (some ⟨b, o, none⟩) x.length cap] ∧ x.length ≤ cap ∧ fp = ⟨b, o, o + cap * a.sz⟩ :: fs ∧
          spanOk w b (o + cap * a.sz) ∧ repL (rep G w a m) w a.sz b o x fs
    | _ => (∃ A cap, cs = [.slice A x.length cap] ∧ x.length ≤ cap ∧ ∀ i (h : i < x.length), ∃ ad c, A = some ad ∧ G ad.block ∧
          cellsAt w (ad.add (i * a.sz)) c ∧ rep G w a .s x[i] c []) ∧ fp = []
  | .ptr a, m, x, cs, fp =>
    match m with
    | .h => (∃ p, cs = [.pointer p]) ∧ fp = []
    | .o m => ∃ y b o c f, x = some y ∧ cs = [.pointer (some ⟨b, o, none⟩)] ∧ fp = ⟨b, o, o + a.sz⟩ :: f ∧ spanOk w b (o + a.sz) ∧
          cellsAt w ⟨b, o, none⟩ c ∧ rep G w a m y c f
    | _ => x = none ∧ cs = [.pointer none] ∧ fp = []

/-! ### Small facts -/
theorem add_add (a : Addr) (m n : Nat) : (a.add m).add n = a.add (m + n) := by
  unfold Addr.add
  by_cases hm : m = 0 <;> by_cases hn : n = 0 <;> simp [hm, hn, Nat.add_assoc]

theorem add_mk (b o j : Nat) : (Addr.mk b o none).add j = ⟨b, o + j, none⟩ := by
  unfold Addr.add
  by_cases h : j = 0 <;> simp [h]

theorem add_block (a : Addr) (n : Nat) : (a.add n).block = a.block := by unfold Addr.add; split <;> rfl

theorem cellsAt_append {w : World} {ad : Addr} {c1 c2 : List Value} : cellsAt w ad (c1 ++ c2) ↔ cellsAt w ad c1 ∧ cellsAt w (ad.add c1.length) c2 := by
  unfold cellsAt
  constructor
  · intro h
    refine ⟨fun j v hj => h j v ?_, fun j v hj => ?_⟩
    · rw [List.getElem?_append_left]
      · exact hj
      · exact (List.getElem?_eq_some_iff.1 hj).1
    · rw [add_add]
      refine h (c1.length + j) v ?_
      rw [List.getElem?_append_right (by omega)]
      simpa using hj
  · rintro ⟨h1, h2⟩ j v hj
    by_cases hlt : j < c1.length
    · rw [List.getElem?_append_left hlt] at hj
      exact h1 j v hj
    · rw [List.getElem?_append_right (by omega)] at hj
      have := h2 _ v hj
      rw [add_add] at this
      rwa [show c1.length + (j - c1.length) = j by omega] at this

theorem cellsAt_nil {w : World} {ad : Addr} : cellsAt w ad [] := by intro j v h; simp at h

/-- w' is as w but for the cells X; no block has gone or changed its shape -/
structure Same (X : Nat → Nat → Prop) (w w' : World) : Prop where
  size : w.heap.size ≤ w'.heap.size
  shape : ∀ (b : Nat) (c : Array Value) (e : TypeId) (f : Nat × Nat), w.heap[b]? = some (Obj.cells c e f) → ∃ c' : Array Value, w'.heap[b]? = some (Obj.cells c' e f) ∧ c'.size = c.size
  cell : ∀ a : Addr, a.block < w.heap.size → (a.spot = none → ¬ X a.block a.off) → w'.cell? a = w.cell? a

theorem Same.span {X : Nat → Nat → Prop} {w w' : World} (h : Same X w w') {b hi : Nat} (s : spanOk w b hi) : spanOk w' b hi := by
  obtain ⟨c, e, hb, hc⟩ := s
  obtain ⟨c', hb', hs⟩ := h.shape _ _ _ _ hb
  exact ⟨c', e, hb', by omega⟩

theorem Same.cellSome {X : Nat → Nat → Prop} {w w' : World} (h : Same X w w') {a : Addr} {v : Value} (hv : w.cell? a = some v) (hx : ¬ X a.block a.off) : w'.cell? a = some v := by
  rw [h.cell a (World.block_lt_of_cell? w a hv) (fun _ => hx)]
  exact hv

theorem Same.cellsAt {X : Nat → Nat → Prop} {w w' : World} (h : Same X w w') {ad : Addr} {c : List Value} (hc : cellsAt w ad c)
    (hx : ∀ j, j < c.length → ¬ X ad.block (ad.add j).off) : cellsAt w' ad c := by
  intro j v hj
  have hlt := (List.getElem?_eq_some_iff.1 hj).1
  refine h.cellSome (hc j v hj) ?_
  rw [add_block]
  exact hx j hlt

theorem Same.refl (X : Nat → Nat → Prop) (w : World) : Same X w w := ⟨Nat.le_refl _, fun _ c _ _ h => ⟨c, h, rfl⟩, fun _ _ _ => rfl⟩

theorem Same.trans {X Y : Nat → Nat → Prop} {a b c : World} (h : Same X a b) (k : Same Y b c) : Same (fun p i => X p i ∨ Y p i) a c where
  size := Nat.le_trans h.size k.size
  shape := fun p cc e f hb => by
    obtain ⟨c1, h1, s1⟩ := h.shape _ _ _ _ hb
    obtain ⟨c2, h2, s2⟩ := k.shape _ _ _ _ h1
    exact ⟨c2, h2, s2.trans s1⟩
  cell := fun ad hlt hx => by
    rw [k.cell ad (Nat.lt_of_lt_of_le hlt h.size) (fun s hy => hx s (.inr hy)), h.cell ad hlt (fun s hy => hx s (.inl hy))]

theorem Same.mono {X Y : Nat → Nat → Prop} {w w' : World} (h : Same X w w') (hxy : ∀ b i, X b i → Y b i) : Same Y w w' :=
  ⟨h.size, h.shape, fun a ha hx => h.cell a ha fun s hy => hx s (hxy _ _ hy)⟩

/-! ### Values keep standing -/
theorem repL_imp {α : Type} {R R' : α → List Value → List Res → Prop} {w w' : World} {sz b : Nat} (X : Nat → Nat → Prop) (hs : Same X w w')
    (hb : ∀ i, ¬ X b i) : ∀ (xs : List α) (o : Nat) (fs : List Res), (∀ x ∈ xs, ∀ c f, (∀ r ∈ f, r ∈ fs) → R x c f → R' x c f) →
    repL R w sz b o xs fs → repL R' w' sz b o xs fs
  | [], _, _, _, h => h
  | x :: xs, o, fs, hr, h => by
    obtain ⟨c, f1, f2, hc, hx, hl, rfl⟩ := h
    refine ⟨c, f1, f2, hs.cellsAt hc (fun j _ => hb _), hr x (by simp) c f1 (fun r hr' => by simp [hr']) hx, ?_, rfl⟩
    exact repL_imp X hs hb xs _ f2 (fun y hy c f hf => hr y (by simp [hy]) c f (fun r hr' => by simp [hf r hr'])) hl

theorem repA_imp {α : Type} {R R' : α → List Value → List Res → Prop} : ∀ (xs : List α) (cs : List Value) (fs : List Res),
    (∀ x ∈ xs, ∀ c f, (∀ r ∈ f, r ∈ fs) → R x c f → R' x c f) → repA R xs cs fs → repA R' xs cs fs
  | [], _, _, _, h => h
  | x :: xs, cs, fs, hr, h => by
    obtain ⟨c1, c2, f1, f2, hx, hl, rfl, rfl⟩ := h
    exact ⟨c1, c2, f1, f2, hr x (by simp) c1 f1 (fun r hr' => by simp [hr']) hx, repA_imp xs c2 f2 (fun y hy c f hf => hr y (by simp [hy]) c f (fun r hr' => by simp [hf r hr'])) hl, rfl, rfl⟩

theorem rep_frame {G G' : Nat → Prop} {w w' : World} {X : Nat → Nat → Prop} (hs : Same X w w') (hG : ∀ b, G b → G' b) (hGX : ∀ b i, X b i → ¬ G b) :
    ∀ (t : Ty) (m : Md) (x : t.den) (cs : List Value) (fp : List Res), (∀ r ∈ fp, ∀ i, ¬ X r.blk i) → rep G w t m x cs fp → rep G' w' t m x cs fp := by
  intro t
  induction t with
  | int k => intro m x cs fp _ h; exact h
  | bool => intro m x cs fp _ h; exact h
  | str => intro m x cs fp _ h; exact h
  | unit => intro m x cs fp _ h; exact h
  | fn => intro m x cs fp _ h; exact h
  | pair a b iha ihb =>
    intro m x cs fp hf h
    obtain ⟨c1, c2, f1, f2, h1, h2, rfl, rfl⟩ := h
    exact ⟨c1, c2, f1, f2, iha _ _ _ _ (fun r hr => hf r (by simp [hr])) h1, ihb _ _ _ _ (fun r hr => hf r (by simp [hr])) h2, rfl, rfl⟩
  | arr n a ih =>
    intro m x cs fp hf h
    exact ⟨h.1, repA_imp x cs fp (fun y _ c f hfs hr => ih _ _ _ _ (fun r hr' => hf r (hfs r hr')) hr) h.2⟩
  | list a ih =>
    intro m x cs fp hf h
    have shared : ∀ (A : Option Addr) (cap : Nat), (∀ i (h : i < x.length), ∃ (ad : Addr) (c : List Value), A = some ad ∧ G ad.block ∧ cellsAt w (ad.add (i * a.sz)) c ∧ rep G w a .s x[i] c []) →
        ∀ i (h : i < x.length), ∃ (ad : Addr) (c : List Value), A = some ad ∧ G' ad.block ∧ cellsAt w' (ad.add (i * a.sz)) c ∧ rep G' w' a .s x[i] c [] := by
      intro A cap hh i hi
      obtain ⟨ad, c, ha, hg, hc, hr⟩ := hh i hi
      refine ⟨ad, c, ha, hG _ hg, hs.cellsAt hc (fun j _ hx => ?_), ih _ _ _ _ (by simp) hr⟩
      rw [add_block] at hx
      exact hGX _ _ hx hg
    cases m with
    | h => exact h
    | o m =>
      rcases h with h | ⟨b, o, cap, fs, rfl, hl, rfl, hsp, hr⟩
      · exact .inl h
      · refine .inr ⟨b, o, cap, fs, rfl, hl, rfl, hs.span hsp, ?_⟩
        exact repL_imp X hs (fun i => hf ⟨b, o, o + cap * a.sz⟩ (by simp) i) x o fs (fun y _ c f hfs hr => ih _ _ _ _ (fun r hr' => hf r (by simp [hfs r hr'])) hr) hr
    | s => obtain ⟨⟨A, cap, rfl, hlc, hh⟩, rfl⟩ := h; exact ⟨⟨A, cap, rfl, hlc, shared A cap hh⟩, rfl⟩
    | p _ _ => obtain ⟨⟨A, cap, rfl, hlc, hh⟩, rfl⟩ := h; exact ⟨⟨A, cap, rfl, hlc, shared A cap hh⟩, rfl⟩
  | ptr a ih =>
    intro m x cs fp hf h
    cases m with
    | o m =>
      obtain ⟨y, b, o, c, f, rfl, rfl, rfl, hsp, hc, hr⟩ := h
      exact ⟨y, b, o, c, f, rfl, rfl, rfl, hs.span hsp, hs.cellsAt hc (fun j _ => hf ⟨b, o, o + a.sz⟩ (by simp) _), ih _ _ _ _ (fun r hr' => hf r (by simp [hr'])) hr⟩
    | h => exact h
    | s => exact h
    | p _ _ => exact h

theorem rep_len {G : Nat → Prop} {w : World} : ∀ (t : Ty) (m : Md) (x : t.den) (cs : List Value) (fp : List Res), rep G w t m x cs fp → cs.length = t.sz := by
  intro t
  induction t with
  | int k => intro m x cs fp h; obtain ⟨rfl, _⟩ := h; rfl
  | bool => intro m x cs fp h; obtain ⟨rfl, _⟩ := h; rfl
  | str => intro m x cs fp h; obtain ⟨⟨s, rfl, _⟩, _⟩ := h; rfl
  | unit => intro m x cs fp h; obtain ⟨rfl, _⟩ := h; rfl
  | fn => intro m x cs fp h; obtain ⟨h, _⟩ := h; cases x <;> simp only at h <;> subst h <;> rfl
  | pair a b iha ihb =>
    intro m x cs fp h
    obtain ⟨c1, c2, f1, f2, h1, h2, rfl, rfl⟩ := h
    simp [Ty.sz, iha _ _ _ _ h1, ihb _ _ _ _ h2]
  | arr n a ih =>
    intro m x cs fp h
    obtain ⟨hn, h⟩ := h
    have : ∀ (xs : List a.den) cs fp, repA (rep G w a m.e) xs cs fp → cs.length = xs.length * a.sz := by
      intro xs
      induction xs with
      | nil => intro cs fp h; obtain ⟨rfl, _⟩ := h; simp
      | cons y ys ih2 =>
        intro cs fp h
        obtain ⟨c1, c2, f1, f2, h1, h2, rfl, rfl⟩ := h
        simp [ih _ _ _ _ h1, ih2 _ _ h2, Nat.add_mul, Nat.add_comm]
    rw [this x cs fp h, hn]; rfl
  | list a ih =>
    intro m x cs fp h
    cases m with
    | h => obtain ⟨⟨A, l, c, rfl⟩, _⟩ := h; rfl
    | o m => rcases h with ⟨_, rfl, _⟩ | ⟨b, o, cap, fs, rfl, _⟩ <;> rfl
    | s => obtain ⟨⟨A, cap, rfl, _⟩, _⟩ := h; rfl
    | p _ _ => obtain ⟨⟨A, cap, rfl, _⟩, _⟩ := h; rfl
  | ptr a ih =>
    intro m x cs fp h
    cases m with
    | h => obtain ⟨⟨p, rfl⟩, _⟩ := h; rfl
    | o m => obtain ⟨y, b, o, c, f, _, rfl, _⟩ := h; rfl
    | s => obtain ⟨_, rfl, _⟩ := h; rfl
    | p _ _ => obtain ⟨_, rfl, _⟩ := h; rfl

theorem rep_one {G : Nat → Prop} {w : World} : ∀ (t : Ty) (m : Md) (x : t.den) (cs : List Value) (fp : List Res), rep G w t m x cs fp →
    ∀ v ∈ cs, v.oneCell' = true := by
  intro t
  induction t with
  | int k => intro m x cs fp h; obtain ⟨rfl, _⟩ := h; simp [Value.oneCell']
  | bool => intro m x cs fp h; obtain ⟨rfl, _⟩ := h; simp [Value.oneCell']
  | str => intro m x cs fp h; obtain ⟨⟨s, rfl, _⟩, _⟩ := h; simp [Value.oneCell']
  | unit => intro m x cs fp h; obtain ⟨rfl, _⟩ := h; simp
  | fn => intro m x cs fp h; obtain ⟨h, _⟩ := h; cases x <;> simp only at h <;> subst h <;> simp [Value.oneCell']
  | pair a b iha ihb =>
    intro m x cs fp h v hv
    obtain ⟨c1, c2, f1, f2, h1, h2, rfl, rfl⟩ := h
    rcases List.mem_append.1 hv with hv | hv
    · exact iha _ _ _ _ h1 v hv
    · exact ihb _ _ _ _ h2 v hv
  | arr n a ih =>
    intro m x cs fp h
    obtain ⟨_, h⟩ := h
    have : ∀ (xs : List a.den) cs fp, repA (rep G w a m.e) xs cs fp → ∀ v ∈ cs, v.oneCell' = true := by
      intro xs
      induction xs with
      | nil => intro cs fp h; obtain ⟨rfl, _⟩ := h; simp
      | cons y ys ih2 =>
        intro cs fp h v hv
        obtain ⟨c1, c2, f1, f2, h1, h2, rfl, rfl⟩ := h
        rcases List.mem_append.1 hv with hv | hv
        · exact ih _ _ _ _ h1 v hv
        · exact ih2 _ _ h2 v hv
    exact this x cs fp h
  | list a ih =>
    intro m x cs fp h
    cases m with
    | h => obtain ⟨⟨A, l, c, rfl⟩, _⟩ := h; simp [Value.oneCell']
    | o m => rcases h with ⟨_, rfl, _⟩ | ⟨b, o, cap, fs, rfl, _⟩ <;> simp [Value.oneCell']
    | s => obtain ⟨⟨A, cap, rfl, _⟩, _⟩ := h; simp [Value.oneCell']
    | p _ _ => obtain ⟨⟨A, cap, rfl, _⟩, _⟩ := h; simp [Value.oneCell']
  | ptr a ih =>
    intro m x cs fp h
    cases m with
    | h => obtain ⟨⟨p, rfl⟩, _⟩ := h; simp [Value.oneCell']
    | o m => obtain ⟨y, b, o, c, f, _, rfl, _⟩ := h; simp [Value.oneCell']
    | s => obtain ⟨_, rfl, _⟩ := h; simp [Value.oneCell']
    | p _ _ => obtain ⟨_, rfl, _⟩ := h; simp [Value.oneCell']

/-- what is shared all through owns nothing -/
theorem rep_s_fp {G : Nat → Prop} {w : World} : ∀ (t : Ty) (x : t.den) (cs : List Value) (fp : List Res), rep G w t .s x cs fp → fp = [] := by
  intro t
  induction t with
  | int k => intro x cs fp h; exact h.2
  | bool => intro x cs fp h; exact h.2
  | str => intro x cs fp h; exact h.2
  | unit => intro x cs fp h; exact h.2
  | fn => intro x cs fp h; exact h.2
  | pair a b iha ihb =>
    intro x cs fp h
    obtain ⟨c1, c2, f1, f2, h1, h2, rfl, rfl⟩ := h
    rw [iha _ _ _ h1, ihb _ _ _ h2]; rfl
  | arr n a ih =>
    intro x cs fp h
    obtain ⟨_, h⟩ := h
    have : ∀ (xs : List a.den) cs fp, repA (rep G w a .s) xs cs fp → fp = [] := by
      intro xs
      induction xs with
      | nil => intro cs fp h; exact h.2
      | cons y ys ih2 =>
        intro cs fp h
        obtain ⟨c1, c2, f1, f2, h1, h2, rfl, rfl⟩ := h
        rw [ih _ _ _ h1, ih2 _ _ h2]; rfl
    exact this x cs fp h
  | list a ih => intro x cs fp h; exact h.2
  | ptr a ih => intro x cs fp h; exact h.2.2

end Go.VL

namespace Go.VL

/-! ### Sharing -/
def blks (fp : List Res) (b : Nat) : Prop := ∃ r ∈ fp, r.blk = b

theorem frz_s : ∀ (t : Ty), frz t .s = true := by
  intro t
  induction t <;> simp_all [frz, Md.l, Md.r, Md.e]

theorem rep_share {G G' : Nat → Prop} {w : World} (hG : ∀ b, G b → G' b) : ∀ (t : Ty) (m : Md) (x : t.den) (cs : List Value) (fp : List Res), frz t m = true →
    (∀ r ∈ fp, G' r.blk) → rep G w t m x cs fp → rep G' w t .s x cs [] := by
  intro t
  induction t with
  | int k => intro m x cs fp _ _ h; exact ⟨h.1, rfl⟩
  | bool => intro m x cs fp _ _ h; exact ⟨h.1, rfl⟩
  | str => intro m x cs fp _ _ h; exact ⟨h.1, rfl⟩
  | unit => intro m x cs fp _ _ h; exact ⟨h.1, rfl⟩
  | fn => intro m x cs fp _ _ h; exact ⟨h.1, rfl⟩
  | pair a b iha ihb =>
    intro m x cs fp hz hf h
    simp only [frz, Bool.and_eq_true] at hz
    obtain ⟨c1, c2, f1, f2, h1, h2, rfl, rfl⟩ := h
    exact ⟨c1, c2, [], [], iha _ _ _ _ hz.1 (fun r hr => hf r (by simp [hr])) h1, ihb _ _ _ _ hz.2 (fun r hr => hf r (by simp [hr])) h2, rfl, rfl⟩
  | arr n a ih =>
    intro m x cs fp hz hf h
    refine ⟨h.1, ?_⟩
    have : ∀ (xs : List a.den) cs fp, (∀ r ∈ fp, G' r.blk) → repA (rep G w a m.e) xs cs fp → repA (rep G' w a .s) xs cs [] := by
      intro xs
      induction xs with
      | nil => intro cs fp _ h; exact ⟨h.1, rfl⟩
      | cons y ys ih2 =>
        intro cs fp hf h
        obtain ⟨c1, c2, f1, f2, h1, h2, rfl, rfl⟩ := h
        exact ⟨c1, c2, [], [], ih _ _ _ _ hz (fun r hr => hf r (by simp [hr])) h1, ih2 _ _ (fun r hr => hf r (by simp [hr])) h2, rfl, rfl⟩
    exact this x cs fp hf h.2
  | list a ih =>
    intro m x cs fp hz hf h
    have sh : (∃ A cap, cs = [.slice A x.length cap] ∧ x.length ≤ cap ∧ ∀ i (h : i < x.length), ∃ ad c, A = some ad ∧ G ad.block ∧ cellsAt w (ad.add (i * a.sz)) c ∧ rep G w a .s x[i] c []) →
        rep G' w (.list a) .s x cs [] := by
      rintro ⟨A, cap, rfl, hlc, hh⟩
      refine ⟨⟨A, cap, rfl, hlc, fun i hi => ?_⟩, rfl⟩
      obtain ⟨ad, c, ha, hg, hc, hr⟩ := hh i hi
      exact ⟨ad, c, ha, hG _ hg, hc, ih _ _ _ _ (frz_s a) (by simp) hr⟩
    cases m with
    | h => simp [frz] at hz
    | s => exact sh h.1
    | p _ _ => exact sh h.1
    | o m =>
      simp only [frz] at hz
      rcases h with ⟨rfl, rfl, rfl⟩ | ⟨b, o, cap, fs, rfl, hl, rfl, hsp, hr⟩
      · exact ⟨⟨none, 0, rfl, Nat.le_refl _, fun i hi => by simp at hi⟩, rfl⟩
      · refine ⟨⟨some ⟨b, o, none⟩, cap, rfl, hl, ?_⟩, rfl⟩
        have hb : G' b := hf ⟨b, o, o + cap * a.sz⟩ (by simp)
        have hf' : ∀ r ∈ fs, G' r.blk := fun r hr => hf r (by simp [hr])
        clear hf hl hsp
        have key : ∀ (xs : List a.den) (o : Nat) (fs : List Res), (∀ r ∈ fs, G' r.blk) → repL (rep G w a m) w a.sz b o xs fs →
            ∀ i (h : i < xs.length), ∃ c, cellsAt w ⟨b, o + i * a.sz, none⟩ c ∧ rep G' w a .s xs[i] c [] := by
          intro xs
          induction xs with
          | nil => intro o fs _ _ i hi; simp at hi
          | cons y ys ih2 =>
            intro o fs hfs h i hi
            obtain ⟨c, f1, f2, hc, hy, hl, rfl⟩ := h
            cases i with
            | zero => exact ⟨c, by simpa using hc, ih _ _ _ _ hz (fun r hr => hfs r (by simp [hr])) hy⟩
            | succ i =>
              obtain ⟨c', hc', hr'⟩ := ih2 (o + a.sz) f2 (fun r hr => hfs r (by simp [hr])) hl i (by simpa using hi)
              refine ⟨c', ?_, by simpa using hr'⟩
              rwa [show o + (i + 1) * a.sz = o + a.sz + i * a.sz by rw [Nat.add_mul]; omega]
        intro i hi
        obtain ⟨c, hc, hr⟩ := key x o fs hf' hr i hi
        exact ⟨⟨b, o, none⟩, c, rfl, hb, by rw [add_mk]; exact hc, hr⟩
  | ptr a ih =>
    intro m x cs fp hz hf h
    cases m with
    | h => simp [frz] at hz
    | o m => simp [frz] at hz
    | s => exact ⟨h.1, h.2.1, rfl⟩
    | p _ _ => exact ⟨h.1, h.2.1, rfl⟩

/-- what shares nothing stands without what was shared -/
theorem rep_noS {G G' : Nat → Prop} {w : World} : ∀ (t : Ty) (m : Md) (x : t.den) (cs : List Value) (fp : List Res), noS t m = true →
    rep G w t m x cs fp → rep G' w t m x cs fp := by
  intro t
  induction t with
  | int k => intro m x cs fp _ h; exact h
  | bool => intro m x cs fp _ h; exact h
  | str => intro m x cs fp _ h; exact h
  | unit => intro m x cs fp _ h; exact h
  | fn => intro m x cs fp _ h; exact h
  | pair a b iha ihb =>
    intro m x cs fp hz h
    simp only [noS, Bool.and_eq_true] at hz
    obtain ⟨c1, c2, f1, f2, h1, h2, rfl, rfl⟩ := h
    exact ⟨c1, c2, f1, f2, iha _ _ _ _ hz.1 h1, ihb _ _ _ _ hz.2 h2, rfl, rfl⟩
  | arr n a ih =>
    intro m x cs fp hz h
    exact ⟨h.1, repA_imp x cs fp (fun y _ c f _ hr => ih _ _ _ _ hz hr) h.2⟩
  | list a ih =>
    intro m x cs fp hz h
    cases m with
    | o m =>
      simp only [noS] at hz
      rcases h with h | ⟨b, o, cap, fs, rfl, hl, rfl, hsp, hr⟩
      · exact .inl h
      · exact .inr ⟨b, o, cap, fs, rfl, hl, rfl, hsp, repL_imp (fun _ _ => False) (Same.refl _ w) (fun _ h => h) x o fs (fun y _ c f _ hr => ih _ _ _ _ hz hr) hr⟩
    | _ => simp [noS] at hz
  | ptr a ih =>
    intro m x cs fp hz h
    cases m with
    | o m =>
      simp only [noS] at hz
      obtain ⟨y, b, o, c, f, rfl, rfl, rfl, hsp, hc, hr⟩ := h
      exact ⟨y, b, o, c, f, rfl, rfl, rfl, hsp, hc, ih _ _ _ _ hz hr⟩
    | s => exact h
    | _ => simp [noS] at hz

def Apart (f g : List Res) : Prop := ∀ r ∈ f, ∀ q ∈ g, r.blk ≠ q.blk
def ND (f : List Res) : Prop := f.Pairwise fun r q => r.blk ≠ q.blk

theorem ND.append {f g : List Res} : ND (f ++ g) ↔ ND f ∧ ND g ∧ Apart f g := by
  unfold ND Apart
  rw [List.pairwise_append]

/-- a value seen under another mark: part of what it owned is shared from now on -/
theorem rep_coe {G : Nat → Prop} {w : World} : ∀ (t : Ty) (m m' : Md) (x : t.den) (cs : List Value) (fp : List Res), coeOk t m m' x = true → ND fp →
    rep G w t m x cs fp → ∃ f z : List Res, f.Sublist fp ∧ z.Sublist fp ∧ Apart f z ∧ rep (fun b => G b ∨ blks z b) w t m' x cs f := by
  have same : ∀ (t : Ty) (m : Md) (x : t.den) (cs : List Value) (fp : List Res), rep G w t m x cs fp →
      ∃ f z : List Res, f.Sublist fp ∧ z.Sublist fp ∧ Apart f z ∧ rep (fun b => G b ∨ blks z b) w t m x cs f := fun t m x cs fp h =>
    ⟨fp, [], List.Sublist.refl _, List.nil_sublist _, (fun _ _ _ hq => by simp at hq), rep_frame (X := fun _ _ => False) (Same.refl _ w) (fun _ h => .inl h) (fun _ _ h => h.elim) t m x cs fp (fun _ _ _ h => h) h⟩
  have share : ∀ (t : Ty) (m : Md) (x : t.den) (cs : List Value) (fp : List Res), frz t m = true → rep G w t m x cs fp →
      ∃ f z : List Res, f.Sublist fp ∧ z.Sublist fp ∧ Apart f z ∧ rep (fun b => G b ∨ blks z b) w t .s x cs f := fun t m x cs fp hz h =>
    ⟨[], fp, List.nil_sublist _, List.Sublist.refl _, (fun _ h => by simp at h), rep_share (fun _ h => .inl h) t m x cs fp hz (fun r hr => .inr ⟨r, hr, rfl⟩) h⟩
  intro t
  induction t with
  | pair a b iha ihb =>
    intro m m' x cs fp hc nd h
    unfold coeOk at hc
    by_cases e : m = m'
    · subst e; exact same _ _ _ _ _ h
    · simp only [e, if_false] at hc
      have parts : coeOk a m.l m'.l x.1 = true → coeOk b m.r m'.r x.2 = true → ∃ f z : List Res, f.Sublist fp ∧ z.Sublist fp ∧ Apart f z ∧ rep (fun b => G b ∨ blks z b) w (.pair a b) m' x cs f := by
        intro h1 h2
        obtain ⟨c1, c2, f1, f2, r1, r2, rfl, rfl⟩ := h
        obtain ⟨n1, n2, n12⟩ := ND.append.1 nd
        obtain ⟨g1, z1, s1, t1, a1, q1⟩ := iha _ _ _ _ _ h1 n1 r1
        obtain ⟨g2, z2, s2, t2, a2, q2⟩ := ihb _ _ _ _ _ h2 n2 r2
        refine ⟨g1 ++ g2, z1 ++ z2, s1.append s2, t1.append t2, ?_, c1, c2, g1, g2, ?_, ?_, rfl, rfl⟩
        · intro r hr q hq
          rcases List.mem_append.1 hr with hr | hr <;> rcases List.mem_append.1 hq with hq | hq
          · exact a1 r hr q hq
          · exact n12 r (s1.subset hr) q (t2.subset hq)
          · exact (n12 q (t1.subset hq) r (s2.subset hr)).symm
          · exact a2 r hr q hq
        · exact rep_frame (X := fun _ _ => False) (Same.refl _ w) (fun b h => h.imp id (fun ⟨r, hr, e⟩ => ⟨r, by simp [hr], e⟩)) (fun _ _ h => h.elim) _ _ _ _ _ (fun _ _ _ h => h) q1
        · exact rep_frame (X := fun _ _ => False) (Same.refl _ w) (fun b h => h.imp id (fun ⟨r, hr, e⟩ => ⟨r, by simp [hr], e⟩)) (fun _ _ h => h.elim) _ _ _ _ _ (fun _ _ _ h => h) q2
      cases m' with
      | s => exact share _ _ _ _ _ hc h
      | h => simp only [Bool.and_eq_true] at hc; exact parts hc.1 hc.2
      | o _ => simp only [Bool.and_eq_true] at hc; exact parts hc.1 hc.2
      | p _ _ => simp only [Bool.and_eq_true] at hc; exact parts hc.1 hc.2
  | list a ih =>
    intro m m' x cs fp hc nd h
    unfold coeOk at hc
    by_cases e : m = m'
    · subst e; exact same _ _ _ _ _ h
    · simp only [e, if_false] at hc
      cases m' with
      | s => exact share _ _ _ _ _ (by simpa using hc) h
      | o m2 =>
        cases m with
        | o m1 =>
          simp only [List.isEmpty_iff] at hc
          subst hc
          rcases h with h | ⟨b, o, cap, fs, rfl, hl, rfl, hsp, hr⟩
          · exact ⟨fp, [], List.Sublist.refl _, List.nil_sublist _, (fun _ _ _ hq => by simp at hq), .inl h⟩
          · exact ⟨_, [], List.Sublist.refl _, List.nil_sublist _, (fun _ _ _ hq => by simp at hq), .inr ⟨b, o, cap, fs, rfl, hl, rfl, hsp, hr⟩⟩
        | _ => simp at hc
      | h => cases m <;> simp at hc
      | p _ _ => cases m <;> simp at hc
  | ptr a ih =>
    intro m m' x cs fp hc nd h
    unfold coeOk at hc
    by_cases e : m = m'
    · subst e; exact same _ _ _ _ _ h
    · simp only [e, if_false] at hc
      cases m' with
      | s => exact share _ _ _ _ _ (by simpa using hc) h
      | o m2 =>
        cases m with
        | o m1 =>
          cases x with
          | none => simp at hc
          | some y =>
            simp only at hc
            obtain ⟨y', b, o, c, f, hy, rfl, rfl, hsp, hcc, hr⟩ := h
            cases hy
            have ndf := List.pairwise_cons.1 nd
            obtain ⟨f2, z, h1, h2, h3, h4⟩ := ih _ _ _ _ _ hc ndf.2 hr
            refine ⟨⟨b, o, o + a.sz⟩ :: f2, z, h1.cons_cons _, h2.cons _, ?_, y, b, o, c, f2, rfl, rfl, rfl, hsp, hcc, h4⟩
            intro r hr q hq
            rcases List.mem_cons.1 hr with rfl | hr
            · exact ndf.1 q (h2.subset hq)
            · exact h3 r hr q hq
        | _ => simp at hc
      | h => cases m <;> simp at hc
      | p _ _ => cases m <;> simp at hc
  | _ =>
    intro m m' x cs fp hc nd h
    unfold coeOk at hc
    by_cases e : m = m'
    · subst e; exact same _ _ _ _ _ h
    · simp only [e, if_false] at hc
      cases m' with
      | s => exact share _ _ _ _ _ hc h
      | _ => simp at hc

end Go.VL

namespace Go.VL

/-! ### Following a path through memory -/
def walkA (w : World) : List Step → Ty → Addr → Option Addr
  | [], _, ad => some ad
  | .fst :: p, .pair a _, ad => walkA w p a ad
  | .snd :: p, .pair a b, ad => walkA w p b (ad.add a.sz)
  | .idx i :: p, .arr n a, ad => if i.toNat < n then walkA w p a (ad.add (i.toNat * a.sz)) else none
  | .idx i :: p, .list a, ad => match w.cell? ad with
    | some (.slice (some ad') len _) => if i.toNat < len then walkA w p a (ad'.add (i.toNat * a.sz)) else none
    | _ => none
  | .der :: p, .ptr a, ad => match w.cell? ad with
    | some (.pointer (some ad')) => walkA w p a ad'
    | _ => none
  | _, _, _ => none

/-- the place that a path names from a value -/
def walkV (w : World) : List Step → Ty → List Value → Option Addr
  | .der :: p, .ptr a, [.pointer (some ad)] => walkA w p a ad
  | .idx i :: p, .list a, [.slice (some ad) len _] => if i.toNat < len then walkA w p a (ad.add (i.toNat * a.sz)) else none
  | _, _, _ => none

@[simp] theorem Md.mk_l (a b : Md) : (Md.mk a b).l = a := by cases a <;> cases b <;> rfl
@[simp] theorem Md.mk_r (a b : Md) : (Md.mk a b).r = b := by cases a <;> cases b <;> rfl

section split
variable {α : Type} {R : α → List Value → List Res → Prop} {w : World} {sz b : Nat}

theorem repA_split (hlen : ∀ x c f, R x c f → c.length = sz) : ∀ (xs : List α) (cs : List Value) (fs : List Res) (k : Nat) (h : k < xs.length), repA R xs cs fs →
    ∃ c1 ck c2 f1 fk f2, cs = c1 ++ (ck ++ c2) ∧ fs = f1 ++ (fk ++ f2) ∧ R xs[k] ck fk ∧ c1.length = k * sz ∧
      ∀ (R' : α → List Value → List Res → Prop) y ck' fk', (∀ x c f, (∀ r ∈ f, r ∈ f1 ++ f2) → R x c f → R' x c f) → R' y ck' fk' →
        repA R' (xs.set k y) (c1 ++ (ck' ++ c2)) (f1 ++ (fk' ++ f2))
  | [], _, _, k, h, _ => absurd h (by simp)
  | x :: xs, cs, fs, 0, _, hr => by
    obtain ⟨c1, c2, f1, f2, h1, h2, rfl, rfl⟩ := hr
    refine ⟨[], c1, c2, [], f1, f2, rfl, rfl, h1, by simp, fun R' y ck' fk' hi hy => ?_⟩
    exact ⟨ck', c2, fk', f2, hy, repA_imp xs c2 f2 (fun z _ c f hf hz => hi z c f (by simpa using hf) hz) h2, rfl, rfl⟩
  | x :: xs, cs, fs, k + 1, h, hr => by
    obtain ⟨c1, c2, f1, f2, h1, h2, rfl, rfl⟩ := hr
    obtain ⟨d1, ck, d2, g1, gk, g2, rfl, rfl, hk, hl, hupd⟩ := repA_split hlen xs c2 f2 k (by simpa using h) h2
    refine ⟨c1 ++ d1, ck, d2, f1 ++ g1, gk, g2, by simp, by simp, by simpa using hk, by simp [hl, hlen _ _ _ h1, Nat.add_mul, Nat.add_comm], fun R' y ck' fk' hi hy => ?_⟩
    refine ⟨c1, d1 ++ (ck' ++ d2), f1, g1 ++ (fk' ++ g2), hi x c1 f1 (fun r hr => by simp [hr]) h1, ?_, by simp, by simp⟩
    exact hupd R' y ck' fk' (fun z c f hf hz => hi z c f (fun r hr => by have := hf r hr; simp at this ⊢; rcases this with h | h <;> simp [h]) hz) hy

theorem repL_split (hlen : ∀ x c f, R x c f → c.length = sz) : ∀ (xs : List α) (o : Nat) (fs : List Res) (k : Nat) (h : k < xs.length), repL R w sz b o xs fs →
    ∃ ck f1 fk f2, fs = f1 ++ (fk ++ f2) ∧ cellsAt w ⟨b, o + k * sz, none⟩ ck ∧ R xs[k] ck fk ∧
      ∀ (R' : α → List Value → List Res → Prop) (X : Nat → Nat → Prop) (w' : World) y ck' fk', Same X w w' → (∀ i, X b i → o + k * sz ≤ i ∧ i < o + k * sz + sz) →
        (∀ x c f, (∀ r ∈ f, r ∈ f1 ++ f2) → R x c f → R' x c f) → cellsAt w' ⟨b, o + k * sz, none⟩ ck' → R' y ck' fk' → repL R' w' sz b o (xs.set k y) (f1 ++ (fk' ++ f2))
  | [], _, _, k, h, _ => absurd h (by simp)
  | x :: xs, o, fs, 0, _, hr => by
    obtain ⟨c, f1, f2, hc, h1, h2, rfl⟩ := hr
    refine ⟨c, [], f1, f2, rfl, by simpa using hc, h1, fun R' X w' y ck' fk' hs hx hi hc' hy => ?_⟩
    refine ⟨ck', fk', f2, by simpa using hc', hy, ?_, rfl⟩
    have : ∀ (xs : List α) (o' : Nat) (fs : List Res), o + sz ≤ o' → (∀ r ∈ fs, r ∈ f2) → repL R w sz b o' xs fs → repL R' w' sz b o' xs fs := by
      intro xs
      induction xs with
      | nil => intro o' fs _ _ h; exact h
      | cons z zs ih =>
        intro o' fs ho hfs h
        obtain ⟨c, g1, g2, hc, hz, hl, rfl⟩ := h
        refine ⟨c, g1, g2, hs.cellsAt hc (fun j hj hX => ?_), hi z c g1 (fun r hr => by simpa using hfs r (by simp [hr])) hz, ih (o' + sz) g2 (by omega) (fun r hr => hfs r (by simp [hr])) hl, rfl⟩
        rw [add_mk] at hX
        have := hx _ hX
        simp at this
        omega
    exact this xs (o + sz) f2 (Nat.le_refl _) (fun _ h => h) h2
  | x :: xs, o, fs, k + 1, h, hr => by
    obtain ⟨c, f1, f2, hc, h1, h2, rfl⟩ := hr
    obtain ⟨ck, g1, gk, g2, rfl, hck, hk, hupd⟩ := repL_split hlen xs (o + sz) f2 k (by simpa using h) h2
    have e : o + sz + k * sz = o + (k + 1) * sz := by rw [Nat.add_mul]; omega
    rw [e] at hck hupd
    refine ⟨ck, f1 ++ g1, gk, g2, by simp, hck, by simpa using hk, fun R' X w' y ck' fk' hs hx hi hc' hy => ?_⟩
    refine ⟨c, f1, g1 ++ (fk' ++ g2), hs.cellsAt hc (fun j hj hX => ?_), hi x c f1 (fun r hr => by simp [hr]) h1, ?_, by simp⟩
    · rw [add_mk] at hX
      have := hx _ hX
      have hl := hlen _ _ _ h1
      simp [Nat.add_mul] at this
      omega
    · exact hupd R' X w' y ck' fk' hs hx (fun z c f hf hz => hi z c f (fun r hr => by have := hf r hr; simp at this ⊢; rcases this with h | h <;> simp [h]) hz) hc' hy
end split

theorem spanOk.mono {w : World} {b hi hi' : Nat} (h : spanOk w b hi) (hh : hi' ≤ hi) : spanOk w b hi' := by
  obtain ⟨c, e, h1, h2⟩ := h
  exact ⟨c, e, h1, by omega⟩

/-- where the place lies: in the block b0, or in one that is owned -/
def InRes (b0 lo hi : Nat) (fp : List Res) (b o n : Nat) : Prop :=
  (b = b0 ∧ lo ≤ o ∧ o + n ≤ hi) ∨ ∃ r ∈ fp, r.blk = b ∧ r.lo ≤ o ∧ o + n ≤ r.hi

/-- what a write at a place may turn -/
def cut (b o n : Nat) (f : List Res) : Nat → Nat → Prop := fun b' i => (b' = b ∧ o ≤ i ∧ i < o + n) ∨ blks f b'

theorem cellsAt_inj {w : World} {ad : Addr} {c c' : List Value} (h : cellsAt w ad c) (h' : cellsAt w ad c') (hl : c.length = c'.length) : c = c' := by
  apply List.ext_getElem?
  intro j
  by_cases hj : j < c.length
  · have h1 := h j c[j] (List.getElem?_eq_getElem hj)
    have h2 := h' j c'[j] (List.getElem?_eq_getElem (hl ▸ hj))
    rw [h1] at h2
    rw [List.getElem?_eq_getElem hj, List.getElem?_eq_getElem (hl ▸ hj)]
    exact h2
  · rw [List.getElem?_eq_none (by omega), List.getElem?_eq_none (by omega)]

theorem cell_of {w : World} {b o : Nat} {v : Value} (h : cellsAt w ⟨b, o, none⟩ [v]) : w.cell? ⟨b, o, none⟩ = some v := h 0 v rfl

theorem lensA {G : Nat → Prop} {w : World} : ∀ (p : List Step) (t : Ty) (m : Md) (x : t.den) (b0 o0 : Nat) (c : List Value) (fp : List Res) (v v' : TV) (ad : Addr) (r2 : Md × t.den),
    cellsAt w ⟨b0, o0, none⟩ c → rep G w t m x c fp → ND fp → (∀ r ∈ fp, r.blk ≠ b0) → ¬ G b0 → (∀ r ∈ fp, ¬ G r.blk) → spanOk w b0 (o0 + t.sz) →
    getP p t m x = some v → walkA w p t ⟨b0, o0, none⟩ = some ad → v'.t = v.t → setP p t m x v' = some r2 →
    ∃ b o c1 f pre post, ad = ⟨b, o, none⟩ ∧ cellsAt w ad c1 ∧ rep G w v.t v.m v.x c1 f ∧ fp = pre ++ (f ++ post) ∧ spanOk w b (o + v.t.sz) ∧
      InRes b0 o0 (o0 + t.sz) (pre ++ post) b o v.t.sz ∧
      ∀ (G' : Nat → Prop) (X : Nat → Nat → Prop) w' c1' f', (∀ b, G b → G' b) → Same X w w' → (∀ b' i, X b' i → ¬ G b') → (∀ b' i, X b' i → cut b o v.t.sz f b' i ∨ (b' ≠ b0 ∧ ¬ blks fp b')) → cellsAt w' ad c1' → rep G' w' v'.t v'.m v'.x c1' f' →
        ∃ c', cellsAt w' ⟨b0, o0, none⟩ c' ∧ rep G' w' t r2.1 r2.2 c' (pre ++ (f' ++ post)) := by
  intro p
  induction p with
  | nil =>
    intro t m x b0 o0 c fp v v' ad r2 hc hr nd hb0 hg hgf hsp hget hwalk ht hset
    simp only [getP, Option.some.injEq] at hget
    subst hget
    simp only [walkA, Option.some.injEq] at hwalk
    subst hwalk
    obtain ⟨t', m', x'⟩ := v'
    simp only at ht
    subst ht
    simp only [setP, castV, dif_pos, Option.map_some, Option.some.injEq] at hset
    subst hset
    refine ⟨b0, o0, c, fp, [], [], rfl, hc, hr, by simp, hsp, .inl ⟨rfl, Nat.le_refl _, Nat.le_refl _⟩, fun G' X w' c1' f' hG hs _ _ hc1 hr1 => ⟨c1', hc1, ?_⟩⟩
    simpa using hr1
  | cons s p ih =>
    intro t m x b0 o0 c fp v v' ad r2 hc hr nd hb0 hg hgf hsp hget hwalk ht hset
    cases s with
    | fst =>
      cases t with
      | pair a bt =>
        obtain ⟨ca, cb, fa, fb, ha, hb, rfl, rfl⟩ := hr
        obtain ⟨na, nb, nab⟩ := ND.append.1 nd
        obtain ⟨hca, hcb⟩ := cellsAt_append.1 hc
        simp only [getP] at hget
        simp only [walkA] at hwalk
        simp only [setP, Option.map_eq_some_iff] at hset
        obtain ⟨q, hset, rfl⟩ := hset
        have la := rep_len _ _ _ _ _ ha
        obtain ⟨b, o, c1, f, pre, post, rfl, hc1, hr1, rfl, hsp1, hin, hupd⟩ := ih a m.l x.1 b0 o0 ca fa v v' ad q hca ha na (fun r hr => hb0 r (by simp [hr])) hg
          (fun r hr => hgf r (by simp [hr])) (hsp.mono (by simp only [Ty.sz]; omega)) hget hwalk ht hset
        have hbb : b = b0 ∨ ∃ r ∈ pre ++ post, r.blk = b := by
          rcases hin with ⟨h, _⟩ | ⟨r, hr, h, _⟩
          · exact .inl h
          · exact .inr ⟨r, hr, h⟩
        refine ⟨b, o, c1, f, pre, post ++ fb, rfl, hc1, hr1, by simp, hsp1, ?_, fun G' X w' c1' f' hG hs hXG hXc hc1' hr1' => ?_⟩
        · rcases hin with ⟨h1, h2, h3⟩ | ⟨r, hr, h⟩
          · exact .inl ⟨h1, h2, by simp [Ty.sz]; omega⟩
          · exact .inr ⟨r, by simp at hr ⊢; rcases hr with h | h <;> simp [h], h⟩
        · obtain ⟨ca', hca', hra'⟩ := hupd G' X w' c1' f' hG hs hXG (fun b' i hx => (hXc b' i hx).imp id (fun h => ⟨h.1, fun ⟨r, hr, e⟩ => h.2 ⟨r, by simp at hr ⊢; rcases hr with h | h | h <;> simp [h], e⟩⟩)) hc1' hr1'
          have la' := rep_len _ _ _ _ _ hra'
          refine ⟨ca' ++ cb, cellsAt_append.2 ⟨hca', ?_⟩, ca', cb, pre ++ (f' ++ post), fb, by simpa using hra', ?_, rfl, by simp⟩
          · rw [la', ← la]
            refine hs.cellsAt hcb (fun j hj hX => ?_)
            rw [add_mk, add_mk] at hX
            rcases hXc _ _ hX with (⟨h1, h2, h3⟩ | ⟨r, hr, h⟩) | ⟨hn, _⟩
            · rcases hin with ⟨_, _, h6⟩ | ⟨r, hr, h4, _⟩
              · simp at h3 h2; omega
              · exact hb0 r (by simp at hr ⊢; rcases hr with h | h <;> simp [h]) (h4.trans h1.symm)
            · exact hb0 r (by simp [hr]) h
            · exact hn rfl
          · simp only [Md.mk_r]
            refine rep_frame hs hG hXG _ _ _ _ _ (fun r hr i hX => ?_) hb
            rcases hXc _ _ hX with (⟨h1, _⟩ | ⟨q, hq, h⟩) | ⟨_, hn⟩
            · rcases hbb with h2 | ⟨q, hq, h2⟩
              · exact hb0 r (by simp [hr]) (h1.trans h2)
              · exact nab q (by simp at hq ⊢; rcases hq with h | h <;> simp [h]) r hr (h2.trans h1.symm)
            · exact nab q (by simp [hq]) r hr h
            · exact hn ⟨r, by simp [hr], rfl⟩
      | _ => simp [getP] at hget
    | snd =>
      cases t with
      | pair a bt =>
        obtain ⟨ca, cb, fa, fb, ha, hb, rfl, rfl⟩ := hr
        obtain ⟨na, nb, nab⟩ := ND.append.1 nd
        obtain ⟨hca, hcb⟩ := cellsAt_append.1 hc
        simp only [getP] at hget
        simp only [walkA] at hwalk
        simp only [setP, Option.map_eq_some_iff] at hset
        obtain ⟨q, hset, rfl⟩ := hset
        have la := rep_len _ _ _ _ _ ha
        rw [la, add_mk] at hcb
        rw [add_mk] at hwalk
        obtain ⟨b, o, c1, f, pre, post, rfl, hc1, hr1, rfl, hsp1, hin, hupd⟩ := ih bt m.r x.2 b0 (o0 + a.sz) cb fb v v' ad q hcb hb nb (fun r hr => hb0 r (by simp [hr])) hg
          (fun r hr => hgf r (by simp [hr])) (by simpa [Ty.sz, Nat.add_assoc] using hsp) hget hwalk ht hset
        have hbb : b = b0 ∨ ∃ r ∈ pre ++ post, r.blk = b := by
          rcases hin with ⟨h, _⟩ | ⟨r, hr, h, _⟩
          · exact .inl h
          · exact .inr ⟨r, hr, h⟩
        refine ⟨b, o, c1, f, fa ++ pre, post, rfl, hc1, hr1, by simp, hsp1, ?_, fun G' X w' c1' f' hG hs hXG hXc hc1' hr1' => ?_⟩
        · rcases hin with ⟨h1, h2, h3⟩ | ⟨r, hr, h⟩
          · exact .inl ⟨h1, by omega, by simp [Ty.sz]; omega⟩
          · exact .inr ⟨r, by simp at hr ⊢; rcases hr with h | h <;> simp [h], h⟩
        · obtain ⟨cb', hcb', hrb'⟩ := hupd G' X w' c1' f' hG hs hXG (fun b' i hx => (hXc b' i hx).imp id (fun h => ⟨h.1, fun ⟨r, hr, e⟩ => h.2 ⟨r, by simp at hr ⊢; rcases hr with h | h | h <;> simp [h], e⟩⟩)) hc1' hr1'
          refine ⟨ca ++ cb', cellsAt_append.2 ⟨?_, by rw [la, add_mk]; exact hcb'⟩, ca, cb', fa, pre ++ (f' ++ post), ?_, by simpa using hrb', rfl, by simp⟩
          · refine hs.cellsAt hca (fun j hj hX => ?_)
            rw [add_mk] at hX
            rcases hXc _ _ hX with (⟨h1, h2, h3⟩ | ⟨r, hr, h⟩) | ⟨hn, _⟩
            · rcases hin with ⟨_, h6, _⟩ | ⟨r, hr, h4, _⟩
              · simp at h3 h2; omega
              · exact hb0 r (by simp at hr ⊢; rcases hr with h | h <;> simp [h]) (h4.trans h1.symm)
            · exact hb0 r (by simp [hr]) h
            · exact hn rfl
          · simp only [Md.mk_l]
            refine rep_frame hs hG hXG _ _ _ _ _ (fun r hr i hX => ?_) ha
            rcases hXc _ _ hX with (⟨h1, _⟩ | ⟨q, hq, h⟩) | ⟨_, hn⟩
            · rcases hbb with h2 | ⟨q, hq, h2⟩
              · exact hb0 r (by simp [hr]) (h1.trans h2)
              · exact nab r hr q (by simp at hq ⊢; rcases hq with h | h <;> simp [h]) (h1.trans h2.symm)
            · exact nab r hr q (by simp [hq]) h.symm
            · exact hn ⟨r, by simp [hr], rfl⟩
      | _ => simp [getP] at hget
    | idx i =>
      cases t with
      | arr n a =>
        obtain ⟨hn, hr⟩ := hr
        simp only [getP] at hget
        simp only [walkA] at hwalk
        split at hwalk
        case isFalse => cases hwalk
        case isTrue hi =>
        have hk : i.toNat < x.length := by rw [hn]; exact hi
        simp only [setP, Option.bind_eq_some_iff] at hset
        obtain ⟨q, hset, hq⟩ := hset
        split at hq
        case isFalse => cases hq
        case isTrue hqm =>
        simp only [Option.some.injEq] at hq
        subst hq
        have hx : x.getD i.toNat a.zero = x[i.toNat] := by simp [List.getD, hk]
        rw [hx] at hget hset
        obtain ⟨c1, ck, c2, f1, fk, f2, rfl, rfl, hrk, hl1, hupdA⟩ := repA_split (sz := a.sz) (fun x c f h => rep_len _ _ _ _ _ h) x c fp i.toNat hk hr
        obtain ⟨n1, n2, n12⟩ := ND.append.1 nd
        obtain ⟨nk, n2, nk2⟩ := ND.append.1 n2
        obtain ⟨hc1, hc2⟩ := cellsAt_append.1 hc
        obtain ⟨hck, hc2⟩ := cellsAt_append.1 hc2
        rw [hl1, add_mk] at hck hc2
        have lk := rep_len _ _ _ _ _ hrk
        rw [lk, add_mk] at hc2
        rw [add_mk] at hwalk
        have hle : i.toNat * a.sz + a.sz ≤ n * a.sz := by
          have : (i.toNat + 1) * a.sz ≤ n * a.sz := Nat.mul_le_mul_right _ hi
          rwa [Nat.add_mul, Nat.one_mul] at this
        obtain ⟨b, o, d1, f, pre, post, rfl, hd1, hr1, rfl, hsp1, hin, hupd⟩ := ih a m.e x[i.toNat] b0 (o0 + i.toNat * a.sz) ck fk v v' ad q hck hrk nk (fun r hr => hb0 r (by simp [hr])) hg
          (fun r hr => hgf r (by simp [hr])) (hsp.mono (by simp only [Ty.sz]; omega)) hget hwalk ht hset
        have hbb : b = b0 ∨ ∃ r ∈ pre ++ post, r.blk = b := by
          rcases hin with ⟨h, _⟩ | ⟨r, hr, h, _⟩
          · exact .inl h
          · exact .inr ⟨r, hr, h⟩
        refine ⟨b, o, d1, f, f1 ++ pre, post ++ f2, rfl, hd1, hr1, by simp, hsp1, ?_, fun G' X w' c1' f' hG hs hXG hXc hc1' hr1' => ?_⟩
        · rcases hin with ⟨h1, h2, h3⟩ | ⟨r, hr, h⟩
          · exact .inl ⟨h1, by omega, by simp only [Ty.sz]; omega⟩
          · exact .inr ⟨r, by simp at hr ⊢; rcases hr with h | h <;> simp [h], h⟩
        · obtain ⟨ck', hck', hrk'⟩ := hupd G' X w' c1' f' hG hs hXG (fun b' i hx => (hXc b' i hx).imp id (fun h => ⟨h.1, fun ⟨r, hr, e⟩ => h.2 ⟨r, by simp at hr ⊢; rcases hr with h | h | h <;> simp [h], e⟩⟩)) hc1' hr1'
          have lk' := rep_len _ _ _ _ _ hrk'
          rw [hqm] at hrk'
          have frame : ∀ j, ¬ (o0 + i.toNat * a.sz ≤ j ∧ j < o0 + i.toNat * a.sz + a.sz) → ¬ X b0 j := by
            intro j hj hX
            rcases hXc _ _ hX with (⟨h1, h2, h3⟩ | ⟨r, hr, h⟩) | ⟨hn, _⟩
            · rcases hin with ⟨_, h5, h6⟩ | ⟨r, hr, h4, _⟩
              · exact hj ⟨by omega, by omega⟩
              · exact hb0 r (by simp at hr ⊢; rcases hr with h | h <;> simp [h]) (h4.trans h1.symm)
            · exact hb0 r (by simp [hr]) h
            · exact hn rfl
          refine ⟨c1 ++ (ck' ++ c2), cellsAt_append.2 ⟨?_, cellsAt_append.2 ⟨by rw [hl1, add_mk]; exact hck', ?_⟩⟩, ?_, ?_⟩
          · refine hs.cellsAt hc1 (fun j hj => ?_)
            rw [add_mk]
            exact frame _ (by simp; omega)
          · rw [hl1, lk', add_mk, add_mk]
            refine hs.cellsAt hc2 (fun j hj => ?_)
            rw [add_mk]
            exact frame _ (by simp)
          · simpa using hn
          · have := hupdA (rep G' w' a m.e) q.2 ck' (pre ++ (f' ++ post)) (fun y c g hg' hy => ?_) hrk'
            · simpa using this
            · refine rep_frame hs hG hXG _ _ _ _ _ (fun r hr j hX => ?_) hy
              have hrr := hg' r hr
              have hrf : r.blk ≠ b0 := hb0 r (by simp at hrr ⊢; rcases hrr with h | h <;> simp [h])
              have hne : ∀ z ∈ pre ++ (f ++ post), r.blk ≠ z.blk := by
                intro z hz
                rcases List.mem_append.1 hrr with h | h
                · exact n12 r h z (by simp at hz ⊢; rcases hz with h | h | h <;> simp [h])
                · exact (nk2 z hz r h).symm
              rcases hXc _ _ hX with (⟨h1, _⟩ | ⟨z, hz, h⟩) | ⟨_, hn⟩
              · rcases hbb with h2 | ⟨z, hz, h2⟩
                · exact hrf (h1.trans h2)
                · exact hne z (by simp at hz ⊢; rcases hz with h | h <;> simp [h]) (h1.trans h2.symm)
              · exact hne z (by simp [hz]) h.symm
              · exact hn ⟨r, by simp at hrr ⊢; rcases hrr with h | h <;> simp [h], rfl⟩
      | list a =>
        cases m with
        | o m =>
          simp only [getP] at hget
          simp only [setP, Option.bind_eq_some_iff] at hset
          obtain ⟨q, hset, hq⟩ := hset
          split at hq
          case isFalse => cases hq
          case isTrue hqm =>
          simp only [Option.some.injEq] at hq
          subst hq
          rcases hr with ⟨rfl, rfl, rfl⟩ | ⟨bb, oo, cap, fs, rfl, hlc, rfl, hspb, hr⟩
          · simp [walkA, cell_of hc] at hwalk
          · simp only [walkA, cell_of hc] at hwalk
            split at hwalk
            case isFalse => cases hwalk
            case isTrue hk =>
            have hx : x.getD i.toNat a.zero = x[i.toNat] := by simp [List.getD, hk]
            rw [hx] at hget hset
            obtain ⟨ck, f1, fk, f2, rfl, hck, hrk, hupdL⟩ := repL_split (sz := a.sz) (fun x c f h => rep_len _ _ _ _ _ h) x oo fs i.toNat hk hr
            have nd' : ND (f1 ++ (fk ++ f2)) ∧ ∀ r ∈ f1 ++ (fk ++ f2), bb ≠ r.blk := by
              have := List.pairwise_cons.1 nd
              exact ⟨this.2, fun r hr => this.1 r hr⟩
            obtain ⟨n1, n2, n12⟩ := ND.append.1 nd'.1
            obtain ⟨nk, n2, nk2⟩ := ND.append.1 n2
            have hbb0 : bb ≠ b0 := hb0 ⟨bb, oo, oo + cap * a.sz⟩ (by simp)
            rw [add_mk] at hwalk
            have hle : i.toNat * a.sz + a.sz ≤ cap * a.sz := by
              have : (i.toNat + 1) * a.sz ≤ cap * a.sz := Nat.mul_le_mul_right _ (by omega)
              rwa [Nat.add_mul, Nat.one_mul] at this
            obtain ⟨b, o, d1, f, pre, post, rfl, hd1, hr1, rfl, hsp1, hin, hupd⟩ := ih a m x[i.toNat] bb (oo + i.toNat * a.sz) ck fk v v' ad q hck hrk nk
              (fun r hr => (nd'.2 r (by simp [hr])).symm) (hgf ⟨bb, oo, oo + cap * a.sz⟩ (by simp)) (fun r hr => hgf r (by simp [hr]))
              (hspb.mono (by omega)) hget hwalk ht hset
            have hbr : ∃ r ∈ (⟨bb, oo, oo + cap * a.sz⟩ : Res) :: (pre ++ post), r.blk = b ∧ r.lo ≤ o ∧ o + v.t.sz ≤ r.hi := by
              rcases hin with ⟨h1, h2, h3⟩ | ⟨r, hr, h⟩
              · exact ⟨⟨bb, oo, oo + cap * a.sz⟩, by simp, h1.symm, by simp; omega, by simp; omega⟩
              · exact ⟨r, by simp at hr ⊢; rcases hr with h | h <;> simp [h], h⟩
            have hbb : ∃ r ∈ (⟨bb, oo, oo + cap * a.sz⟩ : Res) :: (pre ++ post), r.blk = b := by
              obtain ⟨r, hr, h, _⟩ := hbr
              exact ⟨r, hr, h⟩
            refine ⟨b, o, d1, f, ⟨bb, oo, oo + cap * a.sz⟩ :: (f1 ++ pre), post ++ f2, rfl, hd1, hr1, by simp, hsp1, .inr ?_, fun G' X w' c1' f' hG hs hXG hXc hc1' hr1' => ?_⟩
            · obtain ⟨r, hr, h⟩ := hbr
              exact ⟨r, by simp at hr ⊢; rcases hr with h | h | h <;> simp [h], h⟩
            · obtain ⟨ck', hck', hrk'⟩ := hupd G' X w' c1' f' hG hs hXG (fun b' i hx => (hXc b' i hx).imp id (fun h => ⟨fun e => h.2 ⟨⟨bb, oo, oo + cap * a.sz⟩, by simp, e.symm⟩, fun ⟨r, hr, e⟩ => h.2 ⟨r, by simp at hr ⊢; rcases hr with h | h | h <;> simp [h], e⟩⟩)) hc1' hr1'
              rw [hqm] at hrk'
              have b0out : ∀ j, ¬ X b0 j := by
                intro j hX
                rcases hXc _ _ hX with (⟨h1, _⟩ | ⟨r, hr, h⟩) | ⟨hn, _⟩
                · obtain ⟨r, hr, h2⟩ := hbb
                  exact hb0 r (by simp at hr ⊢; rcases hr with h | h | h <;> simp [h]) (h2.trans h1.symm)
                · exact hb0 r (by simp [hr]) h
                · exact hn rfl
              refine ⟨_, hs.cellsAt hc (fun j hj => by rw [add_mk]; exact b0out _), .inr ⟨bb, oo, cap, f1 ++ (pre ++ (f' ++ post) ++ f2), by simp, by simpa using hlc, by simp, hs.span hspb, ?_⟩⟩
              refine hupdL (rep G' w' a m) X w' q.2 ck' (pre ++ (f' ++ post)) hs (fun j hX => ?_) (fun y c g hg' hy => ?_) hck' hrk'
              · rcases hXc _ _ hX with (⟨h1, h2, h3⟩ | ⟨r, hr, h⟩) | ⟨_, hn⟩
                · rcases hin with ⟨_, h5, h6⟩ | ⟨r, hr, h4, _⟩
                  · exact ⟨by omega, by omega⟩
                  · exact absurd (h1.trans h4.symm) (nd'.2 r (by simp at hr ⊢; rcases hr with h | h <;> simp [h]))
                · exact absurd h.symm (nd'.2 r (by simp [hr]))
                · exact absurd ⟨⟨bb, oo, oo + cap * a.sz⟩, by simp, rfl⟩ hn
              · refine rep_frame hs hG hXG _ _ _ _ _ (fun r hr j hX => ?_) hy
                have hrr := hg' r hr
                have hrf : r.blk ≠ bb := (nd'.2 r (by simp at hrr ⊢; rcases hrr with h | h <;> simp [h])).symm
                have hne : ∀ z ∈ pre ++ (f ++ post), r.blk ≠ z.blk := by
                  intro z hz
                  rcases List.mem_append.1 hrr with h | h
                  · exact n12 r h z (by simp at hz ⊢; rcases hz with h | h | h <;> simp [h])
                  · exact (nk2 z hz r h).symm
                rcases hXc _ _ hX with (⟨h1, _⟩ | ⟨z, hz, h⟩) | ⟨_, hn⟩
                · obtain ⟨z, hz, h2⟩ := hbb
                  rcases List.mem_cons.1 hz with rfl | hz
                  · exact hrf (h1.trans h2.symm)
                  · exact hne z (by simp at hz ⊢; rcases hz with h | h <;> simp [h]) (h1.trans h2.symm)
                · exact hne z (by simp [hz]) h.symm
                · exact hn ⟨r, by simp at hrr ⊢; rcases hrr with h | h <;> simp [h], rfl⟩
        | _ => simp [setP] at hset
      | _ => simp [getP] at hget
    | der =>
      cases t with
      | ptr a =>
        cases m with
        | o m =>
          simp only [getP] at hget
          simp only [setP, Option.map_eq_some_iff] at hset
          obtain ⟨q, hset, rfl⟩ := hset
          obtain ⟨y, bb, oo, cc, fs, rfl, rfl, rfl, hspb, hcc, hr⟩ := hr
          simp only [Option.getD_some] at hget hset
          simp only [walkA, cell_of hc] at hwalk
          have nd' := List.pairwise_cons.1 nd
          have hbb0 : bb ≠ b0 := hb0 ⟨bb, oo, oo + a.sz⟩ (by simp)
          obtain ⟨b, o, d1, f, pre, post, rfl, hd1, hr1, rfl, hsp1, hin, hupd⟩ := ih a m y bb oo cc fs v v' ad q hcc hr nd'.2
              (fun r hr => (nd'.1 r hr).symm) (hgf ⟨bb, oo, oo + a.sz⟩ (by simp)) (fun r hr => hgf r (by simp [hr])) hspb hget hwalk ht hset
          have hbr : ∃ r ∈ (⟨bb, oo, oo + a.sz⟩ : Res) :: (pre ++ post), r.blk = b ∧ r.lo ≤ o ∧ o + v.t.sz ≤ r.hi := by
            rcases hin with ⟨h1, h2, h3⟩ | ⟨r, hr, h⟩
            · exact ⟨⟨bb, oo, oo + a.sz⟩, by simp, h1.symm, by simpa using h2, by simpa using h3⟩
            · exact ⟨r, by simp at hr ⊢; rcases hr with h | h <;> simp [h], h⟩
          have hbb : ∃ r ∈ (⟨bb, oo, oo + a.sz⟩ : Res) :: (pre ++ post), r.blk = b := by
            obtain ⟨r, hr, h, _⟩ := hbr
            exact ⟨r, hr, h⟩
          refine ⟨b, o, d1, f, ⟨bb, oo, oo + a.sz⟩ :: pre, post, rfl, hd1, hr1, by simp, hsp1, .inr ?_, fun G' X w' c1' f' hG hs hXG hXc hc1' hr1' => ?_⟩
          · obtain ⟨r, hr, h⟩ := hbr
            exact ⟨r, by simp at hr ⊢; rcases hr with h | h | h <;> simp [h], h⟩
          · obtain ⟨ck', hck', hrk'⟩ := hupd G' X w' c1' f' hG hs hXG (fun b' i hx => (hXc b' i hx).imp id (fun h => ⟨fun e => h.2 ⟨⟨bb, oo, oo + a.sz⟩, by simp, e.symm⟩, fun ⟨r, hr, e⟩ => h.2 ⟨r, by simp at hr ⊢; rcases hr with h | h | h <;> simp [h], e⟩⟩)) hc1' hr1'
            have b0out : ∀ j, ¬ X b0 j := by
              intro j hX
              rcases hXc _ _ hX with (⟨h1, _⟩ | ⟨r, hr, h⟩) | ⟨hn, _⟩
              · obtain ⟨r, hr, h2⟩ := hbb
                exact hb0 r (by simp at hr ⊢; rcases hr with h | h | h <;> simp [h]) (h2.trans h1.symm)
              · exact hb0 r (by simp [hr]) h
              · exact hn rfl
            exact ⟨_, hs.cellsAt hc (fun j hj => by rw [add_mk]; exact b0out _), q.2, bb, oo, ck', pre ++ (f' ++ post), rfl, rfl, by simp, hs.span hspb, hck', hrk'⟩
        | _ => simp [setP] at hset
      | _ => simp [getP] at hget

end Go.VL

namespace Go.VL

/-- a place that is looked at: what lies there; and as long as nothing that the path meets is turned it leads there -/
theorem readA {G : Nat → Prop} {w : World} : ∀ (p : List Step) (t : Ty) (m : Md) (x : t.den) (ad0 : Addr) (c : List Value) (fp : List Res) (v : TV) (ad : Addr),
    cellsAt w ad0 c → rep G w t m x c fp → getP p t m x = some v → walkA w p t ad0 = some ad →
    ∃ c1 f, cellsAt w ad c1 ∧ rep G w v.t v.m v.x c1 f ∧ (∀ r ∈ f, r ∈ fp) ∧ (ad.block = ad0.block ∨ G ad.block ∨ blks fp ad.block) ∧
      ∀ X w', Same X w w' → (∀ i, ¬ X ad0.block i) → (∀ b i, X b i → ¬ G b ∧ ¬ blks fp b) → walkA w' p t ad0 = some ad := by
  intro p
  induction p with
  | nil =>
    intro t m x ad0 c fp v ad hc hr hget hwalk
    simp only [getP, Option.some.injEq] at hget
    subst hget
    simp only [walkA, Option.some.injEq] at hwalk
    subst hwalk
    exact ⟨c, fp, hc, hr, fun _ h => h, .inl rfl, fun _ _ _ _ _ => rfl⟩
  | cons s p ih =>
    intro t m x ad0 c fp v ad hc hr hget hwalk
    cases s with
    | fst =>
      cases t with
      | pair a bt =>
        obtain ⟨ca, cb, fa, fb, ha, hb, rfl, rfl⟩ := hr
        simp only [getP] at hget
        simp only [walkA] at hwalk
        obtain ⟨c1, f, h1, h2, h3, h4, h5⟩ := ih a m.l x.1 ad0 ca fa v ad (cellsAt_append.1 hc).1 ha hget hwalk
        refine ⟨c1, f, h1, h2, fun r hr => by simp [h3 r hr], h4.imp id (·.imp id fun ⟨r, hr, h⟩ => ⟨r, by simp [hr], h⟩), fun X w' hs hx hX => ?_⟩
        exact h5 X w' hs hx (fun b i h => ⟨(hX b i h).1, fun ⟨r, hr, h'⟩ => (hX b i h).2 ⟨r, by simp [hr], h'⟩⟩)
      | _ => simp [getP] at hget
    | snd =>
      cases t with
      | pair a bt =>
        obtain ⟨ca, cb, fa, fb, ha, hb, rfl, rfl⟩ := hr
        simp only [getP] at hget
        simp only [walkA] at hwalk
        have la := rep_len _ _ _ _ _ ha
        obtain ⟨c1, f, h1, h2, h3, h4, h5⟩ := ih bt m.r x.2 (ad0.add a.sz) cb fb v ad (la ▸ (cellsAt_append.1 hc).2) hb hget hwalk
        rw [add_block] at h4
        refine ⟨c1, f, h1, h2, fun r hr => by simp [h3 r hr], h4.imp id (·.imp id fun ⟨r, hr, h⟩ => ⟨r, by simp [hr], h⟩), fun X w' hs hx hX => ?_⟩
        exact h5 X w' hs (by rw [add_block]; exact hx) (fun b i h => ⟨(hX b i h).1, fun ⟨r, hr, h'⟩ => (hX b i h).2 ⟨r, by simp [hr], h'⟩⟩)
      | _ => simp [getP] at hget
    | idx i =>
      cases t with
      | arr n a =>
        obtain ⟨hn, hr⟩ := hr
        simp only [getP] at hget
        simp only [walkA] at hwalk
        split at hwalk
        case isFalse => cases hwalk
        case isTrue hi =>
        have hk : i.toNat < x.length := by rw [hn]; exact hi
        have hx : x.getD i.toNat a.zero = x[i.toNat] := by simp [List.getD, hk]
        rw [hx] at hget
        obtain ⟨c1, ck, c2, f1, fk, f2, rfl, rfl, hrk, hl1, -⟩ := repA_split (sz := a.sz) (fun x c f h => rep_len _ _ _ _ _ h) x c fp i.toNat hk hr
        obtain ⟨hc1, hc2⟩ := cellsAt_append.1 hc
        obtain ⟨hck, hc2⟩ := cellsAt_append.1 hc2
        rw [hl1] at hck
        obtain ⟨d1, f, h1, h2, h3, h4, h5⟩ := ih a m.e x[i.toNat] (ad0.add (i.toNat * a.sz)) ck fk v ad hck hrk hget hwalk
        rw [add_block] at h4
        refine ⟨d1, f, h1, h2, fun r hr => by simp [h3 r hr], h4.imp id (·.imp id fun ⟨r, hr, h⟩ => ⟨r, by simp [hr], h⟩), fun X w' hs hx hX => ?_⟩
        simp only [walkA, hi, if_true]
        exact h5 X w' hs (by rw [add_block]; exact hx) (fun b i h => ⟨(hX b i h).1, fun ⟨r, hr, h'⟩ => (hX b i h).2 ⟨r, by simp [hr], h'⟩⟩)
      | list a =>
        have shared : ∀ A cap, c = [Value.slice A x.length cap] → (∀ i (h : i < x.length), ∃ (ad : Addr) (c : List Value), A = some ad ∧ G ad.block ∧ cellsAt w (ad.add (i * a.sz)) c ∧ rep G w a .s x[i] c []) →
            getP p a .s (x.getD i.toNat a.zero) = some v →
            ∃ c1 f, cellsAt w ad c1 ∧ rep G w v.t v.m v.x c1 f ∧ (∀ r ∈ f, r ∈ fp) ∧ (ad.block = ad0.block ∨ G ad.block ∨ blks fp ad.block) ∧
              ∀ X w', Same X w w' → (∀ i, ¬ X ad0.block i) → (∀ b i, X b i → ¬ G b ∧ ¬ blks fp b) → walkA w' (.idx i :: p) (.list a) ad0 = some ad := by
          rintro A cap rfl hh hget
          have h0 : w.cell? ad0 = some (.slice A x.length cap) := by
            have := hc 0 _ rfl
            simpa [Addr.add] using this
          cases A with
          | none => simp [walkA, h0] at hwalk
          | some A =>
            simp only [walkA, h0] at hwalk
            split at hwalk
            case isFalse => cases hwalk
            case isTrue hk =>
            obtain ⟨ad1, c1, ha, hg, hc1, hr1⟩ := hh i.toNat hk
            cases ha
            have hx : x.getD i.toNat a.zero = x[i.toNat] := by simp [List.getD, hk]
            rw [hx] at hget
            obtain ⟨d1, f, h1, h2, h3, h4, h5⟩ := ih a .s x[i.toNat] (A.add (i.toNat * a.sz)) c1 [] v ad hc1 hr1 hget hwalk
            rw [add_block] at h4
            refine ⟨d1, f, h1, h2, fun r hr => absurd (h3 r hr) (by simp), .inr (.inl ?_), fun X w' hs hx hX => ?_⟩
            · rcases h4 with h | h | ⟨r, hr, _⟩
              · rw [h]; exact hg
              · exact h
              · simp at hr
            · have h0' : w'.cell? ad0 = some (.slice (some A) x.length cap) := hs.cellSome h0 (hx _)
              simp only [walkA, h0', hk, if_true]
              exact h5 X w' hs (fun i h => (hX _ _ h).1 (by rw [add_block]; exact hg)) (fun b i h => ⟨(hX b i h).1, fun ⟨r, hr, _⟩ => by simp at hr⟩)
        cases m with
        | s => obtain ⟨⟨A, cap, rfl, _, hh⟩, rfl⟩ := hr; exact shared A cap rfl hh (by simpa only [getP] using hget)
        | h => simp [getP] at hget
        | p _ _ => simp [getP] at hget
        | o m =>
          simp only [getP] at hget
          rcases hr with ⟨rfl, rfl, rfl⟩ | ⟨bb, oo, cap, fs, rfl, hlc, rfl, hspb, hr⟩
          · have h0 : w.cell? ad0 = some (.slice none 0 0) := by
              have := hc 0 _ rfl
              simpa [Addr.add] using this
            simp [walkA, h0] at hwalk
          · have h0 : w.cell? ad0 = some (.slice (some ⟨bb, oo, none⟩) x.length cap) := by
              have := hc 0 _ rfl
              simpa [Addr.add] using this
            simp only [walkA, h0] at hwalk
            split at hwalk
            case isFalse => cases hwalk
            case isTrue hk =>
            have hx : x.getD i.toNat a.zero = x[i.toNat] := by simp [List.getD, hk]
            rw [hx] at hget
            obtain ⟨ck, f1, fk, f2, rfl, hck, hrk, -⟩ := repL_split (sz := a.sz) (fun x c f h => rep_len _ _ _ _ _ h) x oo fs i.toNat hk hr
            obtain ⟨d1, f, h1, h2, h3, h4, h5⟩ := ih a m x[i.toNat] ((⟨bb, oo, none⟩ : Addr).add (i.toNat * a.sz)) ck fk v ad (by rw [add_mk]; exact hck) hrk hget hwalk
            rw [add_block] at h4
            refine ⟨d1, f, h1, h2, fun r hr => by simp [h3 r hr], .inr ?_, fun X w' hs hx hX => ?_⟩
            · rcases h4 with h | h | ⟨r, hr, h⟩
              · exact .inr ⟨⟨bb, oo, oo + cap * a.sz⟩, by simp, h.symm⟩
              · exact .inl h
              · exact .inr ⟨r, by simp [hr], h⟩
            · have h0' : w'.cell? ad0 = some (.slice (some ⟨bb, oo, none⟩) x.length cap) := hs.cellSome h0 (hx _)
              simp only [walkA, h0', hk, if_true]
              exact h5 X w' hs (fun i h => (hX _ _ h).2 ⟨⟨bb, oo, oo + cap * a.sz⟩, by simp, by rw [add_block]⟩) (fun b i h => ⟨(hX b i h).1, fun ⟨r, hr, h'⟩ => (hX b i h).2 ⟨r, by simp [hr], h'⟩⟩)
      | _ => simp [getP] at hget
    | der =>
      cases t with
      | ptr a =>
        cases m with
        | o m =>
          simp only [getP] at hget
          obtain ⟨y, bb, oo, cc, fs, rfl, rfl, rfl, hspb, hcc, hr⟩ := hr
          simp only [Option.getD_some] at hget
          have h0 : w.cell? ad0 = some (.pointer (some ⟨bb, oo, none⟩)) := by
            have := hc 0 _ rfl
            simpa [Addr.add] using this
          simp only [walkA, h0] at hwalk
          obtain ⟨d1, f, h1, h2, h3, h4, h5⟩ := ih a m y ⟨bb, oo, none⟩ cc fs v ad hcc hr hget hwalk
          refine ⟨d1, f, h1, h2, fun r hr => by simp [h3 r hr], .inr ?_, fun X w' hs hx hX => ?_⟩
          · rcases h4 with h | h | ⟨r, hr, h⟩
            · exact .inr ⟨⟨bb, oo, oo + a.sz⟩, by simp, h.symm⟩
            · exact .inl h
            · exact .inr ⟨r, by simp [hr], h⟩
          · have h0' : w'.cell? ad0 = some (.pointer (some ⟨bb, oo, none⟩)) := hs.cellSome h0 (hx _)
            simp only [walkA, h0']
            exact h5 X w' hs (fun i h => (hX _ _ h).2 ⟨⟨bb, oo, oo + a.sz⟩, by simp, rfl⟩) (fun b i h => ⟨(hX b i h).1, fun ⟨r, hr, h'⟩ => (hX b i h).2 ⟨r, by simp [hr], h'⟩⟩)
        | _ => simp [getP] at hget
      | _ => simp [getP] at hget

end Go.VL

namespace Go.VL

def isAddr : Value → Bool
  | .slice .. | .pointer _ => true
  | _ => false

/-- a write over cells that hold no address turns no path -/
theorem walkA_ip {w w' : World} {X : Nat → Nat → Prop} (hs : Same X w w') (hX : ∀ (a : Addr) v, w.cell? a = some v → X a.block a.off → isAddr v = false) :
    ∀ (p : List Step) (t : Ty) (ad0 ad : Addr), walkA w p t ad0 = some ad → walkA w' p t ad0 = some ad := by
  have keep : ∀ (a : Addr) v, w.cell? a = some v → isAddr v = true → w'.cell? a = some v := fun a v h ha => hs.cellSome h (fun x => by rw [hX a v h x] at ha; cases ha)
  intro p
  induction p with
  | nil => intro t ad0 ad h; exact h
  | cons s p ih =>
    intro t ad0 ad h
    cases s <;> cases t <;> simp only [walkA] at h ⊢ <;> try cases h
    case fst.pair => exact ih _ _ _ h
    case snd.pair => exact ih _ _ _ h
    case idx.list i a =>
      cases hc : w.cell? ad0 with
      | none => simp [hc] at h
      | some v =>
        cases v <;> simp only [hc] at h <;> try cases h
        case slice A l c =>
          rw [keep _ _ hc rfl]
          cases A with
          | none => cases h
          | some A =>
            simp only at h ⊢
            split at h
            · rename_i hi; rw [if_pos hi]; exact ih _ _ _ h
            · cases h
    case idx.arr i n a =>
      split at h
      · rename_i hi; rw [if_pos hi]; exact ih _ _ _ h
      · cases h
    case der.ptr a =>
      cases hc : w.cell? ad0 with
      | none => simp [hc] at h
      | some v =>
        cases v <;> simp only [hc] at h <;> try cases h
        case pointer A =>
          rw [keep _ _ hc rfl]
          cases A with
          | none => cases h
          | some A => exact ih _ _ _ h

theorem walkV_ip {w w' : World} {X : Nat → Nat → Prop} (hs : Same X w w') (hX : ∀ (a : Addr) v, w.cell? a = some v → X a.block a.off → isAddr v = false)
    (p : List Step) (t : Ty) (cs : List Value) (ad : Addr) (h : walkV w p t cs = some ad) : walkV w' p t cs = some ad := by
  unfold walkV at h ⊢
  split at h
  · exact walkA_ip hs hX _ _ _ _ h
  · split at h
    · rename_i hi; simp only [hi, if_true]; exact walkA_ip hs hX _ _ _ _ h
    · cases h
  · cases h

theorem rep_notAddr {G : Nat → Prop} {w : World} : ∀ (t : Ty) (m : Md) (x : t.den) (cs : List Value) (fp : List Res), t.hasList = false → rep G w t m x cs fp → ∀ v ∈ cs, isAddr v = false := by
  intro t
  induction t with
  | int k => intro m x cs fp _ h; obtain ⟨rfl, _⟩ := h; simp [isAddr]
  | bool => intro m x cs fp _ h; obtain ⟨rfl, _⟩ := h; simp [isAddr]
  | str => intro m x cs fp _ h; obtain ⟨⟨s, rfl, _⟩, _⟩ := h; simp [isAddr]
  | unit => intro m x cs fp _ h; obtain ⟨rfl, _⟩ := h; simp
  | fn => intro m x cs fp _ h; obtain ⟨h, _⟩ := h; cases x <;> simp only at h <;> subst h <;> simp [isAddr]
  | pair a b iha ihb =>
    intro m x cs fp hl h v hv
    simp only [Ty.hasList, Bool.or_eq_false_iff] at hl
    obtain ⟨c1, c2, f1, f2, h1, h2, rfl, rfl⟩ := h
    rcases List.mem_append.1 hv with hv | hv
    · exact iha _ _ _ _ hl.1 h1 v hv
    · exact ihb _ _ _ _ hl.2 h2 v hv
  | arr n a ih =>
    intro m x cs fp hl h
    obtain ⟨_, h⟩ := h
    have : ∀ (xs : List a.den) cs fp, repA (rep G w a m.e) xs cs fp → ∀ v ∈ cs, isAddr v = false := by
      intro xs
      induction xs with
      | nil => intro cs fp h; obtain ⟨rfl, _⟩ := h; simp
      | cons y ys ih2 =>
        intro cs fp h v hv
        obtain ⟨c1, c2, f1, f2, h1, h2, rfl, rfl⟩ := h
        rcases List.mem_append.1 hv with hv | hv
        · exact ih _ _ _ _ hl h1 v hv
        · exact ih2 _ _ h2 v hv
    exact this x cs fp h
  | list a ih => intro m x cs fp hl h; simp [Ty.hasList] at hl
  | ptr a ih => intro m x cs fp hl h; simp [Ty.hasList] at hl

theorem rep_single {G : Nat → Prop} {w : World} : ∀ (t : Ty) (m : Md) (x : t.den) (cs : List Value) (fp : List Res), t.single = true → rep G w t m x cs fp → ∀ v ∈ cs, isAddr v = true
  | .list _, m, x, cs, fp, _, h => by
    cases m with
    | h => obtain ⟨⟨A, l, cc, rfl⟩, _⟩ := h; simp [isAddr]
    | o _ => rcases h with ⟨_, rfl, _⟩ | ⟨_, _, _, _, rfl, _⟩ <;> simp [isAddr]
    | s => obtain ⟨⟨A, cap, rfl, _⟩, _⟩ := h; simp [isAddr]
    | p _ _ => obtain ⟨⟨A, cap, rfl, _⟩, _⟩ := h; simp [isAddr]
  | .ptr _, m, x, cs, fp, _, h => by
    cases m with
    | h => obtain ⟨⟨p, rfl⟩, _⟩ := h; simp [isAddr]
    | o _ => obtain ⟨y, bb, o, cc, f, _, rfl, _⟩ := h; simp [isAddr]
    | s => obtain ⟨_, rfl, _⟩ := h; simp [isAddr]
    | p _ _ => obtain ⟨_, rfl, _⟩ := h; simp [isAddr]

/-! ### From a value -/
theorem readV {G : Nat → Prop} {w : World} (p : List Step) (t : Ty) (m : Md) (x : t.den) (cs : List Value) (fp : List Res) (v : TV) (ad : Addr)
    (hr : rep G w t m x cs fp) (hget : getP p t m x = some v) (hwalk : walkV w p t cs = some ad) :
    ∃ c1 f, cellsAt w ad c1 ∧ rep G w v.t v.m v.x c1 f ∧ (∀ r ∈ f, r ∈ fp) ∧ (G ad.block ∨ blks fp ad.block) ∧
      ∀ X w', Same X w w' → (∀ b i, X b i → ¬ G b ∧ ¬ blks fp b) → walkV w' p t cs = some ad := by
  unfold walkV at hwalk
  split at hwalk
  · rename_i p a ad0
    cases m with
    | o m =>
      obtain ⟨y, bb, oo, cc, fs, rfl, hv, rfl, hspb, hcc, hr⟩ := hr
      simp only [List.cons.injEq, Value.pointer.injEq, Option.some.injEq, and_true] at hv
      subst hv
      simp only [getP, Option.getD_some] at hget
      obtain ⟨d1, f, h1, h2, h3, h4, h5⟩ := readA p a m y ⟨bb, oo, none⟩ cc fs v ad hcc hr hget hwalk
      refine ⟨d1, f, h1, h2, fun r hr => by simp [h3 r hr], ?_, fun X w' hs hX => ?_⟩
      · rcases h4 with h | h | ⟨r, hr, h⟩
        · exact .inr ⟨⟨bb, oo, oo + a.sz⟩, by simp, h.symm⟩
        · exact .inl h
        · exact .inr ⟨r, by simp [hr], h⟩
      · simp only [walkV]
        exact h5 X w' hs (fun i h => (hX _ _ h).2 ⟨⟨bb, oo, oo + a.sz⟩, by simp, rfl⟩) (fun b i h => ⟨(hX b i h).1, fun ⟨r, hr, h'⟩ => (hX b i h).2 ⟨r, by simp [hr], h'⟩⟩)
    | _ => simp [getP] at hget
  · rename_i i p a A len cap
    split at hwalk
    case isFalse => cases hwalk
    case isTrue hk =>
    cases m with
    | o m =>
      simp only [getP] at hget
      rcases hr with ⟨_, hv, _⟩ | ⟨bb, oo, cap, fs, hv, hlc, rfl, hspb, hr⟩
      · simp at hv
      · simp only [List.cons.injEq, Value.slice.injEq, Option.some.injEq, and_true] at hv
        obtain ⟨rfl, rfl, rfl⟩ := hv
        have hx : x.getD i.toNat a.zero = x[i.toNat] := by simp [List.getD, hk]
        rename_i cap
        rw [hx] at hget
        obtain ⟨ck, f1, fk, f2, rfl, hck, hrk, -⟩ := repL_split (sz := a.sz) (fun x c f h => rep_len _ _ _ _ _ h) x oo fs i.toNat hk hr
        obtain ⟨d1, f, h1, h2, h3, h4, h5⟩ := readA p a m x[i.toNat] ((⟨bb, oo, none⟩ : Addr).add (i.toNat * a.sz)) ck fk v ad (by rw [add_mk]; exact hck) hrk hget hwalk
        rw [add_block] at h4
        refine ⟨d1, f, h1, h2, fun r hr => by simp [h3 r hr], ?_, fun X w' hs hX => ?_⟩
        · rcases h4 with h | h | ⟨r, hr, h⟩
          · exact .inr ⟨⟨bb, oo, oo + cap * a.sz⟩, by simp, h.symm⟩
          · exact .inl h
          · exact .inr ⟨r, by simp [hr], h⟩
        · simp only [walkV, hk, if_true]
          exact h5 X w' hs (fun i h => (hX _ _ h).2 ⟨⟨bb, oo, oo + cap * a.sz⟩, by simp, by rw [add_block]⟩) (fun b i h => ⟨(hX b i h).1, fun ⟨r, hr, h'⟩ => (hX b i h).2 ⟨r, by simp [hr], h'⟩⟩)
    | s =>
      simp only [getP] at hget
      obtain ⟨⟨A', cap, hv, _, hh⟩, rfl⟩ := hr
      simp only [List.cons.injEq, Value.slice.injEq, and_true] at hv
      obtain ⟨rfl, rfl, rfl⟩ := hv
      obtain ⟨ad1, c1, ha, hg, hc1, hr1⟩ := hh i.toNat hk
      cases ha
      have hx : x.getD i.toNat a.zero = x[i.toNat] := by simp [List.getD, hk]
      rw [hx] at hget
      obtain ⟨d1, f, h1, h2, h3, h4, h5⟩ := readA p a .s x[i.toNat] (A.add (i.toNat * a.sz)) c1 [] v ad hc1 hr1 hget hwalk
      rw [add_block] at h4
      refine ⟨d1, f, h1, h2, fun r hr => absurd (h3 r hr) (by simp), .inl ?_, fun X w' hs hX => ?_⟩
      · rcases h4 with h | h | ⟨r, hr, _⟩
        · rw [h]; exact hg
        · exact h
        · simp at hr
      · simp only [walkV, hk, if_true]
        exact h5 X w' hs (fun i h => (hX _ _ h).1 (by rw [add_block]; exact hg)) (fun b i h => ⟨(hX b i h).1, fun ⟨r, hr, _⟩ => by simp at hr⟩)
    | _ => simp [getP] at hget
  · cases hwalk

theorem lensX {G : Nat → Prop} {w : World} (p : List Step) (t : Ty) (m : Md) (x : t.den) (cs : List Value) (fp : List Res) (v v' : TV) (ad : Addr) (r2 : Md × t.den)
    (hr : rep G w t m x cs fp) (nd : ND fp) (hgf : ∀ r ∈ fp, ¬ G r.blk) (hget : getP p t m x = some v) (hwalk : walkV w p t cs = some ad) (ht : v'.t = v.t) (hset : setP p t m x v' = some r2) :
    ∃ b o c1 f pre post, ad = ⟨b, o, none⟩ ∧ cellsAt w ad c1 ∧ rep G w v.t v.m v.x c1 f ∧ fp = pre ++ (f ++ post) ∧ spanOk w b (o + v.t.sz) ∧
      (∃ r ∈ pre ++ post, r.blk = b ∧ r.lo ≤ o ∧ o + v.t.sz ≤ r.hi) ∧
      ∀ (G' : Nat → Prop) (X : Nat → Nat → Prop) w' c1' f', (∀ b, G b → G' b) → Same X w w' → (∀ b' i, X b' i → ¬ G b') → (∀ b' i, X b' i → cut b o v.t.sz f b' i ∨ ¬ blks fp b') → cellsAt w' ad c1' → rep G' w' v'.t v'.m v'.x c1' f' →
        rep G' w' t r2.1 r2.2 cs (pre ++ (f' ++ post)) := by
  unfold walkV at hwalk
  split at hwalk
  · rename_i p a ad0
    cases m with
    | o m =>
      simp only [setP, Option.map_eq_some_iff] at hset
      obtain ⟨q, hset, rfl⟩ := hset
      obtain ⟨y, bb, oo, cc, fs, rfl, hv, rfl, hspb, hcc, hr⟩ := hr
      simp only [List.cons.injEq, Value.pointer.injEq, Option.some.injEq, and_true] at hv
      subst hv
      simp only [getP, Option.getD_some] at hget hset
      have nd' := List.pairwise_cons.1 nd
      obtain ⟨b, o, d1, f, pre, post, rfl, hd1, hr1, rfl, hsp1, hin, hupd⟩ := lensA p a m y bb oo cc fs v v' ad q hcc hr nd'.2
          (fun r hr => (nd'.1 r hr).symm) (hgf ⟨bb, oo, oo + a.sz⟩ (by simp)) (fun r hr => hgf r (by simp [hr])) hspb hget hwalk ht hset
      refine ⟨b, o, d1, f, ⟨bb, oo, oo + a.sz⟩ :: pre, post, rfl, hd1, hr1, by simp, hsp1, ?_, fun G' X w' c1' f' hG hs hXG hXc hc1' hr1' => ?_⟩
      · rcases hin with ⟨h1, h2, h3⟩ | ⟨r, hr, h⟩
        · exact ⟨⟨bb, oo, oo + a.sz⟩, by simp, h1.symm, by simpa using h2, by simpa using h3⟩
        · exact ⟨r, by simp at hr ⊢; rcases hr with h | h <;> simp [h], h⟩
      · obtain ⟨ck', hck', hrk'⟩ := hupd G' X w' c1' f' hG hs hXG (fun b' i hx => (hXc b' i hx).imp id (fun h => ⟨fun e => h ⟨⟨bb, oo, oo + a.sz⟩, by simp, e.symm⟩, fun ⟨r, hr, e⟩ => h ⟨r, by simp at hr ⊢; rcases hr with h | h | h <;> simp [h], e⟩⟩)) hc1' hr1'
        exact ⟨q.2, bb, oo, ck', pre ++ (f' ++ post), rfl, rfl, by simp, hs.span hspb, hck', hrk'⟩
    | _ => simp [setP] at hset
  · rename_i i p a A len cap
    split at hwalk
    case isFalse => cases hwalk
    case isTrue hk =>
    cases m with
    | o m =>
      simp only [getP] at hget
      simp only [setP, Option.bind_eq_some_iff] at hset
      obtain ⟨q, hset, hq⟩ := hset
      split at hq
      case isFalse => cases hq
      case isTrue hqm =>
      simp only [Option.some.injEq] at hq
      subst hq
      rcases hr with ⟨_, hv, _⟩ | ⟨bb, oo, cap, fs, hv, hlc, rfl, hspb, hr⟩
      · simp at hv
      · simp only [List.cons.injEq, Value.slice.injEq, Option.some.injEq, and_true] at hv
        obtain ⟨rfl, rfl, rfl⟩ := hv
        have hx : x.getD i.toNat a.zero = x[i.toNat] := by simp [List.getD, hk]
        rw [hx] at hget hset
        rename_i cap
        obtain ⟨ck, f1, fk, f2, rfl, hck, hrk, hupdL⟩ := repL_split (sz := a.sz) (fun x c f h => rep_len _ _ _ _ _ h) x oo fs i.toNat hk hr
        have nd' : ND (f1 ++ (fk ++ f2)) ∧ ∀ r ∈ f1 ++ (fk ++ f2), bb ≠ r.blk := by
          have := List.pairwise_cons.1 nd
          exact ⟨this.2, fun r hr => this.1 r hr⟩
        obtain ⟨n1, n2, n12⟩ := ND.append.1 nd'.1
        obtain ⟨nk, n2, nk2⟩ := ND.append.1 n2
        rw [add_mk] at hwalk
        have hle : i.toNat * a.sz + a.sz ≤ cap * a.sz := by
          have : (i.toNat + 1) * a.sz ≤ cap * a.sz := Nat.mul_le_mul_right _ (by omega)
          rwa [Nat.add_mul, Nat.one_mul] at this
        obtain ⟨b, o, d1, f, pre, post, rfl, hd1, hr1, rfl, hsp1, hin, hupd⟩ := lensA p a m x[i.toNat] bb (oo + i.toNat * a.sz) ck fk v v' ad q hck hrk nk
          (fun r hr => (nd'.2 r (by simp [hr])).symm) (hgf ⟨bb, oo, oo + cap * a.sz⟩ (by simp)) (fun r hr => hgf r (by simp [hr]))
          (hspb.mono (by omega)) hget hwalk ht hset
        have hbr : ∃ r ∈ (⟨bb, oo, oo + cap * a.sz⟩ : Res) :: (pre ++ post), r.blk = b ∧ r.lo ≤ o ∧ o + v.t.sz ≤ r.hi := by
          rcases hin with ⟨h1, h2, h3⟩ | ⟨r, hr, h⟩
          · exact ⟨⟨bb, oo, oo + cap * a.sz⟩, by simp, h1.symm, by simp; omega, by simp; omega⟩
          · exact ⟨r, by simp at hr ⊢; rcases hr with h | h <;> simp [h], h⟩
        have hbb : ∃ r ∈ (⟨bb, oo, oo + cap * a.sz⟩ : Res) :: (pre ++ post), r.blk = b := by
          obtain ⟨r, hr, h, _⟩ := hbr
          exact ⟨r, hr, h⟩
        refine ⟨b, o, d1, f, ⟨bb, oo, oo + cap * a.sz⟩ :: (f1 ++ pre), post ++ f2, rfl, hd1, hr1, by simp, hsp1, ?_, fun G' X w' c1' f' hG hs hXG hXc hc1' hr1' => ?_⟩
        · obtain ⟨r, hr, h⟩ := hbr
          exact ⟨r, by simp at hr ⊢; rcases hr with h | h | h <;> simp [h], h⟩
        · obtain ⟨ck', hck', hrk'⟩ := hupd G' X w' c1' f' hG hs hXG (fun b' i hx => (hXc b' i hx).imp id (fun h => ⟨fun e => h ⟨⟨bb, oo, oo + cap * a.sz⟩, by simp, e.symm⟩, fun ⟨r, hr, e⟩ => h ⟨r, by simp at hr ⊢; rcases hr with h | h | h <;> simp [h], e⟩⟩)) hc1' hr1'
          rw [hqm] at hrk'
          refine .inr ⟨bb, oo, cap, f1 ++ (pre ++ (f' ++ post) ++ f2), by simp, by simpa using hlc, by simp, hs.span hspb, ?_⟩
          refine hupdL (rep G' w' a m) X w' q.2 ck' (pre ++ (f' ++ post)) hs (fun j hX => ?_) (fun y c g hg' hy => ?_) hck' hrk'
          · rcases hXc _ _ hX with (⟨h1, h2, h3⟩ | ⟨r, hr, h⟩) | hn
            · rcases hin with ⟨_, h5, h6⟩ | ⟨r, hr, h4, _⟩
              · exact ⟨by omega, by omega⟩
              · exact absurd (h1.trans h4.symm) (nd'.2 r (by simp at hr ⊢; rcases hr with h | h <;> simp [h]))
            · exact absurd h.symm (nd'.2 r (by simp [hr]))
            · exact absurd ⟨⟨bb, oo, oo + cap * a.sz⟩, by simp, rfl⟩ hn
          · refine rep_frame hs hG hXG _ _ _ _ _ (fun r hr j hX => ?_) hy
            have hrr := hg' r hr
            have hrf : r.blk ≠ bb := (nd'.2 r (by simp at hrr ⊢; rcases hrr with h | h <;> simp [h])).symm
            have hne : ∀ z ∈ pre ++ (f ++ post), r.blk ≠ z.blk := by
              intro z hz
              rcases List.mem_append.1 hrr with h | h
              · exact n12 r h z (by simp at hz ⊢; rcases hz with h | h | h <;> simp [h])
              · exact (nk2 z hz r h).symm
            rcases hXc _ _ hX with (⟨h1, _⟩ | ⟨z, hz, h⟩) | hn
            · obtain ⟨z, hz, h2⟩ := hbb
              rcases List.mem_cons.1 hz with rfl | hz
              · exact hrf (h1.trans h2.symm)
              · exact hne z (by simp at hz ⊢; rcases hz with h | h <;> simp [h]) (h1.trans h2.symm)
            · exact hne z (by simp [hz]) h.symm
            · exact hn ⟨r, by simp at hrr ⊢; rcases hrr with h | h <;> simp [h], rfl⟩
    | _ => simp [setP] at hset
  · cases hwalk

theorem lensV {G : Nat → Prop} {w : World} (p : List Step) (t : Ty) (m : Md) (x : t.den) (cs : List Value) (fp : List Res) (v v' : TV) (ad : Addr) (r2 : Md × t.den)
    (hr : rep G w t m x cs fp) (nd : ND fp) (hgf : ∀ r ∈ fp, ¬ G r.blk) (hget : getP p t m x = some v) (hwalk : walkV w p t cs = some ad) (ht : v'.t = v.t) (hset : setP p t m x v' = some r2) :
    ∃ b o c1 f pre post, ad = ⟨b, o, none⟩ ∧ cellsAt w ad c1 ∧ rep G w v.t v.m v.x c1 f ∧ fp = pre ++ (f ++ post) ∧ spanOk w b (o + v.t.sz) ∧
      (∃ r ∈ pre ++ post, r.blk = b ∧ r.lo ≤ o ∧ o + v.t.sz ≤ r.hi) ∧
      ∀ (G' : Nat → Prop) w' c1' f', (∀ b, G b → G' b) → Same (cut b o v.t.sz f) w w' → cellsAt w' ad c1' → rep G' w' v'.t v'.m v'.x c1' f' →
        rep G' w' t r2.1 r2.2 cs (pre ++ (f' ++ post)) := by
  obtain ⟨b, o, c1, f, pre, post, h1, h2, h3, h4, h5, h6, h7⟩ := lensX p t m x cs fp v v' ad r2 hr nd hgf hget hwalk ht hset
  refine ⟨b, o, c1, f, pre, post, h1, h2, h3, h4, h5, h6, fun G' w' c1' f' hG hs hc hr' => h7 G' _ w' c1' f' hG hs ?_ (fun _ _ h => .inl h) hc hr'⟩
  rintro b' i (⟨rfl, _⟩ | ⟨r, hr, rfl⟩)
  · obtain ⟨r, hr, rfl, _⟩ := h6
    exact hgf r (by rw [h4]; simp at hr ⊢; rcases hr with h | h <;> simp [h])
  · exact hgf r (by rw [h4]; simp [hr])

/-! ### Longer paths -/
theorem getP_append : ∀ (p q : List Step) (t : Ty) (m : Md) (x : t.den), getP (p ++ q) t m x = (getP p t m x).bind fun v => getP q v.t v.m v.x := by
  intro p
  induction p with
  | nil => intro q t m x; rfl
  | cons s p ih =>
    intro q t m x
    cases s <;> cases t <;> first
      | rfl
      | (simp only [List.cons_append, getP]; exact ih ..)
      | (cases m <;> first | rfl | (simp only [List.cons_append, getP]; exact ih ..))

theorem walkA_append {w : World} : ∀ (p q : List Step) (t : Ty) (m : Md) (x : t.den) (v : TV) (ad0 ad : Addr), getP p t m x = some v → walkA w p t ad0 = some ad →
    walkA w (p ++ q) t ad0 = walkA w q v.t ad := by
  intro p
  induction p with
  | nil =>
    intro q t m x v ad0 ad hget hwalk
    simp only [getP, Option.some.injEq] at hget
    simp only [walkA, Option.some.injEq] at hwalk
    subst hget hwalk
    rfl
  | cons s p ih =>
    intro q t m x v ad0 ad hget hwalk
    cases s with
    | fst => cases t <;> simp only [getP] at hget <;> first | cases hget | exact ih q _ _ _ v _ _ hget hwalk
    | snd => cases t <;> simp only [getP] at hget <;> first | cases hget | exact ih q _ _ _ v _ _ hget hwalk
    | idx i =>
      cases t with
      | arr n a =>
        simp only [List.cons_append, walkA] at hwalk ⊢
        split at hwalk
        · rename_i hi; rw [if_pos hi]; exact ih q _ _ _ v _ _ hget hwalk
        · cases hwalk
      | list a =>
        simp only [List.cons_append, walkA] at hwalk ⊢
        split at hwalk
        · rename_i hc; split at hwalk
          · rename_i hi
            simp only [hi, if_true]
            cases m <;> simp only [getP] at hget <;> first | cases hget | exact ih q _ _ _ v _ _ hget hwalk
          · cases hwalk
        · cases hwalk
      | _ => simp [getP] at hget
    | der =>
      cases t with
      | ptr a =>
        simp only [List.cons_append, walkA] at hwalk ⊢
        split at hwalk
        · rename_i hc
          cases m <;> simp only [getP] at hget <;> first | cases hget | exact ih q _ _ _ v _ _ hget hwalk
        · cases hwalk
      | _ => simp [getP] at hget

theorem walkV_append {w : World} (p q : List Step) (t : Ty) (m : Md) (x : t.den) (cs : List Value) (v : TV) (ad : Addr) (hget : getP p t m x = some v) (hwalk : walkV w p t cs = some ad) :
    walkV w (p ++ q) t cs = walkA w q v.t ad := by
  unfold walkV at hwalk
  split at hwalk
  · rename_i p a ad0
    simp only [List.cons_append, walkV]
    cases m <;> simp only [getP] at hget <;> first | cases hget | exact walkA_append p q _ _ _ v _ _ hget hwalk
  · rename_i i p a A len cap
    split at hwalk
    case isFalse => cases hwalk
    case isTrue hk =>
    simp only [List.cons_append, walkV, hk, if_true]
    cases m <;> simp only [getP] at hget <;> first | cases hget | exact walkA_append p q _ _ _ v _ _ hget hwalk
  · cases hwalk

/-- where a field lies in its struct -/
def offOf : Nat → Ty → Nat
  | n + 1, .pair a b => a.sz + offOf n b
  | _, _ => 0

theorem walkA_steps {w : World} : ∀ (f : Nat) (t : Ty) (m : Md) (x : t.den) (v : TV) (ad : Addr), getP (stepsOf f) t m x = some v → walkA w (stepsOf f) t ad = some (ad.add (offOf f t)) := by
  intro f
  induction f with
  | zero =>
    intro t m x v ad h
    cases t <;> simp [stepsOf, getP] at h
    simp [stepsOf, walkA, offOf, Addr.add]
  | succ f ih =>
    intro t m x v ad h
    cases t <;> simp only [stepsOf, getP] at h <;> try cases h
    rename_i a b
    simp only [stepsOf, walkA, offOf, ih _ _ _ _ _ h, add_add]

end Go.VL

namespace Go.VL

def unpack (t : Ty) (v : Value) : List Value := if t.agg then (match v with | .agg cs => cs.toList | _ => []) else [v]

/-- the value v stands for x -/
def vrel (G : Nat → Prop) (w : World) (t : Ty) (m : Md) (x : t.den) (v : Value) (f : List Res) : Prop :=
  rep G w t m x (unpack t v) f ∧ pack t (unpack t v) = v

theorem unpack_pack {G : Nat → Prop} {w : World} {t : Ty} {m : Md} {x : t.den} {cs : List Value} {f : List Res} (h : rep G w t m x cs f) : unpack t (pack t cs) = cs := by
  have hl := rep_len _ _ _ _ _ h
  unfold unpack pack
  by_cases ha : t.agg = true
  · simp [ha]
  · simp only [ha, if_false, Bool.false_eq_true]
    have h1 : t.sz = 1 := by cases t <;> first | rfl | simp [Ty.agg] at ha
    rw [h1] at hl
    match cs, hl with
    | [a], _ => rfl

theorem vrel_pack {G : Nat → Prop} {w : World} {t : Ty} {m : Md} {x : t.den} {cs : List Value} {f : List Res} (h : rep G w t m x cs f) : vrel G w t m x (pack t cs) f :=
  ⟨by rw [unpack_pack h]; exact h, by rw [unpack_pack h]⟩

theorem vrel_frame {G G' : Nat → Prop} {w w' : World} {X : Nat → Nat → Prop} (hs : Same X w w') (hG : ∀ b, G b → G' b) (hGX : ∀ b i, X b i → ¬ G b) {t : Ty} {m : Md} {x : t.den} {v : Value} {f : List Res}
    (hf : ∀ r ∈ f, ∀ i, ¬ X r.blk i) (h : vrel G w t m x v f) : vrel G' w' t m x v f := ⟨rep_frame hs hG hGX _ _ _ _ _ hf h.1, h.2⟩

def tupRel (G : Nat → Prop) (w : World) : List TV → List Value → List Res → Prop
  | [], [], f => f = []
  | e :: es, v :: vs, f => ∃ f1 f2, vrel G w e.t e.m e.x v f1 ∧ tupRel G w es vs f2 ∧ f = f1 ++ f2
  | _, _, _ => False

theorem tupRel_frame {G G' : Nat → Prop} {w w' : World} {X : Nat → Nat → Prop} (hs : Same X w w') (hG : ∀ b, G b → G' b) (hGX : ∀ b i, X b i → ¬ G b) :
    ∀ (es : List TV) (vs : List Value) (f : List Res), (∀ r ∈ f, ∀ i, ¬ X r.blk i) → tupRel G w es vs f → tupRel G' w' es vs f
  | [], [], _, _, h => h
  | e :: es, v :: vs, f, hf, h => by
    obtain ⟨f1, f2, h1, h2, rfl⟩ := h
    exact ⟨f1, f2, vrel_frame hs hG hGX (fun r hr => hf r (by simp [hr])) h1, tupRel_frame hs hG hGX es vs f2 (fun r hr => hf r (by simp [hr])) h2, rfl⟩
  | [], _ :: _, _, _, h => h.elim
  | _ :: _, [], _, _, h => h.elim

/-- what a slot's entry says of the value that lies there -/
def slotRel (G : Nat → Prop) (w : World) (env : Env) (ts : List Value) : Entry → Value → List Res → Prop
  | .undef, _, _ => True
  | .val t m x, v, f => vrel G w t m x v f
  | .addr r ep p, v, f => f = [] ∧ ep ≤ (env.get r).ep ∧ ((env.get r).ep = ep → ∃ t m x u ad, (env.get r).e = .val t m x ∧ getP p t m x = some u ∧
      walkV w p t (unpack t (ts.getD r undef)) = some ad ∧ v = .pointer (some ad))
  | .pref r ep wc p, v, f => f = [] ∧ ep ≤ (env.get r).ep ∧ wc ≤ (env.get r).wc ∧ ((env.get r).ep = ep → ∃ t m x u, (env.get r).e = .val t m x ∧ getP p t m x = some u ∧
      (aliasOk u wc (env.get r).wc = true → ∃ c, v = pack u.t c ∧ c.length = u.t.sz ∧
        ((p = [] ∧ c = unpack t (ts.getD r undef)) ∨ ∃ ad, walkV w p t (unpack t (ts.getD r undef)) = some ad ∧ cellsAt w ad c)))
  | .ref t x, v, f => f = [] ∧ ∃ ad cs, v = .pointer (some ad) ∧ G ad.block ∧ cellsAt w ad cs ∧ rep G w t .s x cs []
  | .nq neg e, v, f => f = [] ∧ ∃ b, v = .bool (neg != b) ∧ (b = true → e = true)
  | .tup es, v, f => ∃ vs, v = .tuple vs ∧ tupRel G w es vs.toList f
  | .g c e, v, f => match gOf c with
    | true => slotRel G w env ts e v f
    | false => v = undef ∧ f = []

/-- w' is as w but for the cells X of blocks that were there -/
structure Turn (X : Nat → Nat → Prop) (w w' : World) : Prop extends Same X w w' where
  os : w'.os = w.os
  tape : w'.tape = w.tape
  output : w'.output = w.output
  block : ∀ b, b < w.heap.size → (∀ i, ¬ X b i) → w'.heap[b]? = w.heap[b]?

theorem Turn.refl (X : Nat → Nat → Prop) (w : World) : Turn X w w := ⟨Same.refl X w, rfl, rfl, rfl, fun _ _ _ => rfl⟩

theorem Turn.trans {X Y Z : Nat → Nat → Prop} {a b c : World} (h : Turn X a b) (k : Turn Y b c) (hx : ∀ p i, p < a.heap.size → X p i → Z p i) (hy : ∀ p i, p < a.heap.size → Y p i → Z p i) : Turn Z a c where
  size := Nat.le_trans h.size k.size
  shape := (h.toSame.trans k.toSame).shape
  cell := fun ad hlt hz => by
    rw [k.cell ad (Nat.lt_of_lt_of_le hlt h.size) (fun s hc => hz s (hy _ _ hlt hc)), h.cell ad hlt (fun s hc => hz s (hx _ _ hlt hc))]
  os := k.os.trans h.os
  tape := k.tape.trans h.tape
  output := k.output.trans h.output
  block := fun p hlt hz => by
    rw [k.block p (Nat.lt_of_lt_of_le hlt h.size) (fun i hc => hz i (hy _ _ hlt hc)), h.block p hlt (fun i hc => hz i (hx _ _ hlt hc))]

structure Base where
  w0 : World
  G0 : Nat → Prop
  R0 : List Res
  lents : List (Nat × Nat × Nat)

def Base.X0 (B : Base) : Nat → Nat → Prop := fun b i => ∃ r ∈ B.R0, r.blk = b ∧ r.lo ≤ i ∧ i < r.hi

def gval : Entry → Option Bool
  | .val .bool _ v => some v
  | .g _ (.val .bool _ v) => some v
  | _ => none

structure RelX (B : Base) (G : Nat → Prop) (F : Nat → List Res) (H : List (TV × Value)) (env : Env) (ts : List Value) (w : World) : Prop where
  len : env.length = ts.length
  slot : ∀ i, i < env.length → slotRel G w env ts (env.get i).e (ts.getD i undef) (F i)
  held : ∀ k h, H[k]? = some h → vrel G w h.1.t h.1.m h.1.x h.2 (F (env.length + k))
  out : ∀ i, env.length + H.length ≤ i → F i = []
  nd : ∀ i, ND (F i)
  ap : ∀ i j, i ≠ j → Apart (F i) (F j)
  ok : ∀ i, ∀ r ∈ F i, ¬ G r.blk ∧ r.blk < w.heap.size ∧ (B.w0.heap.size ≤ r.blk ∨ ∃ q ∈ B.R0, q.blk = r.blk ∧ q.lo ≤ r.lo ∧ r.hi ≤ q.hi)
  g0 : ∀ b, B.G0 b → G b
  gl : ∀ b, G b → b < w.heap.size ∧ (B.G0 b ∨ B.w0.heap.size ≤ b ∨ blks B.R0 b)
  turn : Turn B.X0 B.w0 w
  chain : ∀ i c e, (env.get i).e = .g c e → ∀ a ∈ c, a.ep ≤ (env.get a.slot).ep ∧ ((env.get a.slot).ep = a.ep → gval (env.get a.slot).e = some a.v)
  lent : ∀ l ∈ B.lents, ∀ t m x, (env.get l.1).e = .val (.ptr t) m x → ts.getD l.1 undef = .pointer (some ⟨l.2.1, l.2.2, none⟩)

theorem Env.get_lt {env : Env} {r : Nat} {e : Entry} (h : (env.get r).e = e) (he : e ≠ .undef) : r < env.length := by
  rcases Nat.lt_or_ge r env.length with h' | h'
  · exact h'
  · simp [Env.get, List.getD, List.getElem?_eq_none h'] at h
    exact absurd h.symm he

section
variable {B : Base} {G : Nat → Prop} {F : Nat → List Res} {H : List (TV × Value)} {env : Env} {ts : List Value} {w : World}

/-- the root of a reference -/
theorem RelX.rootVal (R : RelX B G F H env ts w) {r : Nat} {t : Ty} {m : Md} {x : t.den} (h : (env.get r).e = .val t m x) : r < env.length ∧ vrel G w t m x (ts.getD r undef) (F r) := by
  have hlt := Env.get_lt h (by simp)
  have := R.slot r hlt
  rw [h] at this
  exact ⟨hlt, this⟩

/-- the world turns where nothing is owned and nothing shared -/
theorem RelX.world (R : RelX B G F H env ts w) {X : Nat → Nat → Prop} {w' : World} (hs : Turn X w w') (hG : ∀ b i, X b i → ¬ G b) (hF : ∀ b i, X b i → ∀ j, ¬ blks (F j) b)
    (hX : ∀ b i, b < B.w0.heap.size → X b i → B.X0 b i) : RelX B G F H env ts w' := by
  have hf : ∀ j, ∀ r ∈ F j, ∀ i, ¬ X r.blk i := fun j r hr i hx => hF _ _ hx j ⟨r, hr, rfl⟩
  refine { len := R.len, slot := fun i hi => ?_, held := fun k h hk => vrel_frame hs.toSame (fun _ h => h) hG (hf _) (R.held k h hk), out := R.out, nd := R.nd, ap := R.ap,
           ok := fun i r hr => ⟨(R.ok i r hr).1, Nat.lt_of_lt_of_le (R.ok i r hr).2.1 hs.size, (R.ok i r hr).2.2⟩, g0 := R.g0,
           gl := fun b hb => ⟨Nat.lt_of_lt_of_le (R.gl b hb).1 hs.size, (R.gl b hb).2⟩, turn := R.turn.trans hs (fun _ _ _ h => h) hX, chain := R.chain, lent := R.lent }
  have key : ∀ (e : Entry) (v : Value), slotRel G w env ts e v (F i) → slotRel G w' env ts e v (F i) := by
    intro e
    induction e with
    | undef => intro v h; exact h
    | val t m x => intro v h; exact vrel_frame hs.toSame (fun _ h => h) hG (hf i) h
    | addr r ep p =>
      rintro v ⟨h1, h2, h3⟩
      refine ⟨h1, h2, fun he => ?_⟩
      obtain ⟨t, m, x, u, ad, hr, hu, hw, hv⟩ := h3 he
      obtain ⟨_, hrep⟩ := R.rootVal hr
      obtain ⟨_, _, _, _, _, _, hst⟩ := readV p t m x _ _ u ad hrep.1 hu hw
      exact ⟨t, m, x, u, ad, hr, hu, hst X w' hs.toSame (fun b i h => ⟨hG b i h, hF b i h r⟩), hv⟩
    | pref r ep wc p =>
      rintro v ⟨h1, h2, h2', h3⟩
      refine ⟨h1, h2, h2', fun he => ?_⟩
      obtain ⟨t, m, x, u, hr, hu, hc⟩ := h3 he
      refine ⟨t, m, x, u, hr, hu, fun ha => ?_⟩
      obtain ⟨c, hv, hl, hp | ⟨ad, hw, hcc⟩⟩ := hc ha
      · exact ⟨c, hv, hl, .inl hp⟩
      · obtain ⟨_, hrep⟩ := R.rootVal hr
        obtain ⟨c1, f, hc1, hr1, _, hb, hst⟩ := readV p t m x _ _ u ad hrep.1 hu hw
        refine ⟨c, hv, hl, .inr ⟨ad, hst X w' hs.toSame (fun b i h => ⟨hG b i h, hF b i h r⟩), hs.toSame.cellsAt hcc (fun j _ hx => ?_)⟩⟩
        rcases hb with hb | hb
        · exact hG _ _ hx hb
        · exact hF _ _ hx r hb
    | ref t x => rintro v ⟨h1, ad, cs, h2, h3, h4, h5⟩; exact ⟨h1, ad, cs, h2, h3, hs.toSame.cellsAt h4 (fun j _ hx => hG _ _ hx h3), rep_frame hs.toSame (fun _ h => h) hG _ _ _ _ _ (fun _ h => by simp at h) h5⟩
    | nq neg e => intro v h; exact h
    | tup es => rintro v ⟨vs, rfl, h⟩; exact ⟨vs, rfl, tupRel_frame hs.toSame (fun _ h => h) hG _ _ _ (hf i) h⟩
    | g c e ih =>
      intro v h
      unfold slotRel at h ⊢
      split at h
      · exact ih v h
      · exact h
  exact key _ _ (R.slot i hi)

theorem slotRel_G {G' : Nat → Prop} (hG : ∀ b, G b → G' b) : ∀ (e : Entry) (v : Value) (f : List Res), slotRel G w env ts e v f → slotRel G' w env ts e v f := by
  intro e
  induction e with
  | undef => intro v f h; exact h
  | val t m x => intro v f h; exact vrel_frame (X := fun _ _ => False) (Same.refl _ w) hG (fun _ _ h => h.elim) (fun _ _ _ h => h) h
  | addr r ep p => intro v f h; exact h
  | pref r ep wc p => intro v f h; exact h
  | nq neg e => intro v f h; exact h
  | ref t x => rintro v f ⟨h1, ad, cs, h2, h3, h4, h5⟩; exact ⟨h1, ad, cs, h2, hG _ h3, h4, rep_frame (X := fun _ _ => False) (Same.refl _ w) hG (fun _ _ h => h.elim) _ _ _ _ _ (fun _ h => by simp at h) h5⟩
  | tup es => rintro v f ⟨vs, rfl, h⟩; exact ⟨vs, rfl, tupRel_frame (X := fun _ _ => False) (Same.refl _ w) hG (fun _ _ h => h.elim) _ _ _ (fun _ _ _ h => h) h⟩
  | g c e ih =>
    intro v f h
    unfold slotRel at h ⊢
    split at h
    · exact ih v f h
    · exact h

def upd (F : Nat → List Res) (i : Nat) (f : List Res) : Nat → List Res := fun j => if j = i then f else F j

theorem upd_same (F : Nat → List Res) (i : Nat) (f : List Res) : upd F i f i = f := by simp [upd]
theorem upd_other (F : Nat → List Res) {i j : Nat} (f : List Res) (h : j ≠ i) : upd F i f j = F j := by simp [upd, h]

/-- one more value is held -/
theorem RelX.hold (R : RelX B G F H env ts w) {v : TV} {c : Value} {f : List Res} (hv : vrel G w v.t v.m v.x c f) (nd : ND f) (ap : ∀ j, Apart f (F j))
    (ok : ∀ r ∈ f, ¬ G r.blk ∧ r.blk < w.heap.size ∧ (B.w0.heap.size ≤ r.blk ∨ ∃ q ∈ B.R0, q.blk = r.blk ∧ q.lo ≤ r.lo ∧ r.hi ≤ q.hi)) :
    RelX B G (upd F (env.length + H.length) f) (H ++ [(v, c)]) env ts w := by
  have hne : ∀ i, i < env.length → i ≠ env.length + H.length := fun i hi => by omega
  refine { len := R.len, slot := fun i hi => ?_, held := fun k h hk => ?_, out := fun i hi => ?_, nd := fun i => ?_, ap := fun i j hij => ?_, ok := fun i r hr => ?_, g0 := R.g0, gl := R.gl, turn := R.turn, chain := R.chain, lent := R.lent }
  · rw [upd_other F f (hne i hi)]; exact R.slot i hi
  · by_cases hkl : k < H.length
    · rw [List.getElem?_append_left hkl] at hk
      rw [upd_other F f (by omega)]
      exact R.held k h hk
    · rw [List.getElem?_append_right (by omega)] at hk
      by_cases he : k - H.length = 0
      · rw [he] at hk
        simp only [List.getElem?_cons_zero, Option.some.injEq] at hk
        subst hk
        have : k = H.length := by omega
        subst this
        rw [upd_same]
        exact hv
      · obtain ⟨n, hn⟩ : ∃ n, k - H.length = n + 1 := ⟨k - H.length - 1, by omega⟩
        rw [hn] at hk
        simp at hk
  · simp only [List.length_append, List.length_cons, List.length_nil] at hi
    rw [upd_other F f (by omega)]
    exact R.out i (by omega)
  · unfold upd; split
    · exact nd
    · exact R.nd i
  · unfold upd
    split <;> split
    · omega
    · exact ap j
    · exact fun r hr q hq => (ap i q hq r hr).symm
    · exact R.ap i j hij
  · unfold upd at hr
    split at hr
    · exact ok r hr
    · exact R.ok i r hr

/-- a plain value is held -/
theorem RelX.holdPlain (R : RelX B G F H env ts w) {v : TV} {c : Value} (hv : vrel G w v.t v.m v.x c []) : RelX B G F (H ++ [(v, c)]) env ts w := by
  have := R.hold hv (by unfold ND; exact List.Pairwise.nil) (fun _ _ h => by simp at h) (fun _ h => by simp at h)
  have e : upd F (env.length + H.length) [] = F := by
    funext j
    unfold upd
    split
    · rename_i h; rw [h]; exact (R.out _ (Nat.le_refl _)).symm
    · rfl
  rwa [e] at this

theorem Env.get_put_same (env : Env) (u : Up) (h : u.s < env.length) : (env.put u).get u.s = u.on (env.get u.s) := by
  simp [Env.put, Env.get, List.getD, h]
theorem Env.get_put' (env : Env) (s : Nat) (b : Bool) (e : Entry) (h : s < env.length) : (env.put ⟨s, b, e⟩).get s = ⟨(match b with | true => (env.get s).ep + 1 | false => (env.get s).ep), (env.get s).wc + 1, e⟩ :=
  Env.get_put_same env ⟨s, b, e⟩ h
theorem Env.get_put_other (env : Env) (u : Up) {i : Nat} (h : i ≠ u.s) : (env.put u).get i = env.get i := by
  simp [Env.put, Env.get, List.getD, List.getElem?_set_ne (Ne.symm h)]
theorem Env.length_put (env : Env) (u : Up) : (env.put u).length = env.length := by simp [Env.put]

theorem getD_set_same (ts : List Value) (d : Nat) (v : Value) (h : d < ts.length) : (ts.set d v).getD d undef = v := by simp [List.getD, h]
theorem getD_set_other (ts : List Value) {d i : Nat} (v : Value) (h : i ≠ d) : (ts.set d v).getD i undef = ts.getD i undef := by
  simp [List.getD, List.getElem?_set_ne (Ne.symm h)]

end

end Go.VL

namespace Go.VL
section
variable {B : Base} {G : Nat → Prop} {F : Nat → List Res} {H : List (TV × Value)} {env : Env} {ts : List Value} {w : World}

theorem on_ep_true (s : Nat) (e : Entry) (x : Sl) : (Up.on ⟨s, true, e⟩ x).ep = x.ep + 1 := rfl

/-- what other slots say stands when a slot is written anew -/
theorem slotRel_put {d : Nat} {e' : Entry} {c : Value} (hd : d < env.length) : ∀ (e : Entry) (v : Value) (f : List Res), slotRel G w env ts e v f →
    slotRel G w (env.put ⟨d, true, e'⟩) (ts.set d c) e v f := by
  have hep : ∀ r, (env.get r).ep ≤ ((env.put ⟨d, true, e'⟩).get r).ep := fun r => by
    by_cases h : r = d
    · subst h; rw [Env.get_put' env r true (e') hd]; simp
    · rw [Env.get_put_other env ⟨d, true, e'⟩ h]; exact Nat.le_refl _
  have hwc : ∀ r, (env.get r).wc ≤ ((env.put ⟨d, true, e'⟩).get r).wc := fun r => by
    by_cases h : r = d
    · subst h; rw [Env.get_put' env r true (e') hd]; simp
    · rw [Env.get_put_other env ⟨d, true, e'⟩ h]; exact Nat.le_refl _
  have hsame : ∀ r ep, ep ≤ (env.get r).ep → ((env.put ⟨d, true, e'⟩).get r).ep = ep → r ≠ d := fun r ep hle he h => by
    subst h
    rw [Env.get_put' env r true (e') hd] at he
    simp only at he
    omega
  intro e
  induction e with
  | undef => intro v f h; exact h
  | val t m x => intro v f h; exact h
  | addr r ep p =>
    rintro v f ⟨h1, h2, h3⟩
    refine ⟨h1, Nat.le_trans h2 (hep r), fun he => ?_⟩
    have hne := hsame r ep h2 he
    rw [Env.get_put_other env ⟨d, true, e'⟩ hne] at he ⊢
    rw [getD_set_other ts c hne]
    exact h3 he
  | pref r ep wc p =>
    rintro v f ⟨h1, h2, h2', h3⟩
    refine ⟨h1, Nat.le_trans h2 (hep r), Nat.le_trans h2' (hwc r), fun he => ?_⟩
    have hne := hsame r ep h2 he
    rw [Env.get_put_other env ⟨d, true, e'⟩ hne] at he ⊢
    rw [getD_set_other ts c hne]
    exact h3 he
  | tup es => intro v f h; exact h
  | ref t x => intro v f h; exact h
  | nq neg e => intro v f h; exact h
  | g c e ih =>
    intro v f h
    unfold slotRel at h ⊢
    split at h
    · exact ih v f h
    · exact h

theorem RelX.setSlot (R : RelX B G F H env ts w) {d : Nat} {e : Entry} {c : Value} {f : List Res} (hd : d < env.length)
    (hrel : slotRel G w (env.put ⟨d, true, e⟩) (ts.set d c) e c f) (nd : ND f) (ap : ∀ j, j ≠ d → Apart f (F j))
    (ok : ∀ r ∈ f, ¬ G r.blk ∧ r.blk < w.heap.size ∧ (B.w0.heap.size ≤ r.blk ∨ ∃ q ∈ B.R0, q.blk = r.blk ∧ q.lo ≤ r.lo ∧ r.hi ≤ q.hi))
    (hch : ∀ g e', e = .g g e' → ∀ a ∈ g, a.ep ≤ (env.get a.slot).ep ∧ ((env.get a.slot).ep = a.ep → gval (env.get a.slot).e = some a.v))
    (hl : ∀ l ∈ B.lents, l.1 = d → ∀ t m x, e = .val (.ptr t) m x → c = .pointer (some ⟨l.2.1, l.2.2, none⟩)) :
    RelX B G (upd F d f) H (env.put ⟨d, true, e⟩) (ts.set d c) w := by
  have hdt : d < ts.length := R.len ▸ hd
  have hch' : ∀ g, (∀ a ∈ g, a.ep ≤ (env.get a.slot).ep ∧ ((env.get a.slot).ep = a.ep → gval (env.get a.slot).e = some a.v)) →
      ∀ a ∈ (g : List GI), a.ep ≤ ((env.put ⟨d, true, e⟩).get a.slot).ep ∧ (((env.put ⟨d, true, e⟩).get a.slot).ep = a.ep → gval ((env.put ⟨d, true, e⟩).get a.slot).e = some a.v) := by
    intro g h a ha
    obtain ⟨h1, h2⟩ := h a ha
    by_cases hs : a.slot = d
    · rw [hs, Env.get_put' env d true (e) hd, ← hs]
      exact ⟨by simp only; omega, fun h => by simp only at h; omega⟩
    · rw [Env.get_put_other env ⟨d, true, e⟩ hs]
      exact ⟨h1, h2⟩
  refine { len := by rw [Env.length_put, List.length_set]; exact R.len, slot := fun i hi => ?_, held := fun k h hk => ?_, out := fun i hi => ?_, nd := fun i => ?_, ap := fun i j hij => ?_, ok := fun i r hr => ?_,
           g0 := R.g0, gl := R.gl, turn := R.turn, chain := fun i g e' hi => ?_, lent := fun l hl' t m x he => ?_ }
  · rw [Env.length_put] at hi
    by_cases h : i = d
    · subst h
      rw [Env.get_put' env i true (e) hd, getD_set_same ts i c hdt, upd_same]
      exact hrel
    · rw [Env.get_put_other env ⟨d, true, e⟩ h, getD_set_other ts c h, upd_other F f h]
      exact slotRel_put hd _ _ _ (R.slot i hi)
  · rw [Env.length_put] at *
    rw [upd_other F f (by omega)]
    exact R.held k h hk
  · rw [Env.length_put] at hi
    rw [upd_other F f (by omega)]
    exact R.out i hi
  · unfold upd; split
    · exact nd
    · exact R.nd i
  · unfold upd
    split <;> split
    · omega
    · rename_i h1 h2; exact ap j h2
    · rename_i h1 h2; exact fun r hr q hq => (ap i h1 q hq r hr).symm
    · exact R.ap i j hij
  · unfold upd at hr
    split at hr
    · exact ok r hr
    · exact R.ok i r hr
  · by_cases h : i = d
    · subst h
      rw [Env.get_put' env i true (e) hd] at hi
      exact hch' g (hch g e' hi)
    · rw [Env.get_put_other env ⟨d, true, e⟩ h] at hi
      exact hch' g (R.chain i g e' hi)
  · by_cases h : l.1 = d
    · rw [h, Env.get_put' env d true (e) hd] at he
      rw [h, getD_set_same ts d c hdt]
      exact hl l hl' h t m x he
    · rw [Env.get_put_other env ⟨d, true, e⟩ h] at he
      rw [getD_set_other ts c h]
      exact R.lent l hl' t m x he

theorem RelX.dropHeld {h : TV × Value} (R : RelX B G F (H ++ [h]) env ts w) : RelX B G (upd F (env.length + H.length) []) H env ts w := by
  refine { len := R.len, slot := fun i hi => ?_, held := fun k h' hk => ?_, out := fun i hi => ?_, nd := fun i => ?_, ap := fun i j hij => ?_, ok := fun i r hr => ?_, g0 := R.g0, gl := R.gl, turn := R.turn, chain := R.chain, lent := R.lent }
  · rw [upd_other F _ (by omega)]; exact R.slot i hi
  · have hkl : k < H.length := (List.getElem?_eq_some_iff.1 hk).1
    rw [upd_other F _ (by omega)]
    exact R.held k h' (by rw [List.getElem?_append_left hkl]; exact hk)
  · by_cases he : i = env.length + H.length
    · rw [he, upd_same]
    · rw [upd_other F _ he]
      exact R.out i (by simp; omega)
  · unfold upd; split
    · exact List.Pairwise.nil
    · exact R.nd i
  · unfold upd
    split <;> split
    · omega
    · intro r hr; simp at hr
    · intro r _ q hq; simp at hq
    · exact R.ap i j hij
  · unfold upd at hr
    split at hr
    · simp at hr
    · exact R.ok i r hr

/-- the last held value is put into a slot; under guards that hold -/
theorem RelX.unhold {v : TV} {c : Value} (R : RelX B G F (H ++ [(v, c)]) env ts w) {d : Nat} (hd : d < env.length) (g : List GI) (hg : gOf g = true)
    (hch : ∀ a ∈ g, a.ep ≤ (env.get a.slot).ep ∧ ((env.get a.slot).ep = a.ep → gval (env.get a.slot).e = some a.v))
    (hl : ∀ l ∈ B.lents, l.1 ≠ d) {e : Entry} (he : e = .val v.t v.m v.x ∨ e = .g g (.val v.t v.m v.x)) :
    RelX B G (upd (upd F (env.length + H.length) []) d (F (env.length + H.length))) H (env.put ⟨d, true, e⟩) (ts.set d c) w := by
  have hv : vrel G w v.t v.m v.x c (F (env.length + H.length)) := R.held H.length (v, c) (by simp)
  refine R.dropHeld.setSlot hd ?_ (R.nd _) (fun j hj => ?_) (fun r hr => R.ok _ r hr) (fun g' e' h => ?_) (fun l hl' h => absurd h (hl l hl'))
  · rcases he with rfl | rfl
    · exact hv
    · simp only [slotRel, hg]; exact hv
  · by_cases h : j = env.length + H.length
    · rw [h, upd_same]; intro r _ q hq; simp at hq
    · rw [upd_other F _ h]; exact R.ap _ j (Ne.symm h)
  · rcases he with rfl | rfl
    · cases h
    · cases h; exact hch

/-- a root is turned in place: its pointer or slice stays -/
theorem RelX.setRoot (R : RelX B G F H env ts w) {G' : Nat → Prop} {r : Nat} {t : Ty} {m m2 : Md} {x x2 : t.den} {f' : List Res} {w' : World} {X : Nat → Nat → Prop} {b : Bool}
    (hr : (env.get r).e = .val t m x) (hGG : ∀ b, G b → G' b) (hGn : ∀ b, G' b → ∀ j, j ≠ r → ¬ blks (F j) b)
    (hgl : ∀ b, G' b → b < w'.heap.size ∧ (B.G0 b ∨ B.w0.heap.size ≤ b ∨ blks B.R0 b)) (hs : Turn X w w') (hG : ∀ b i, X b i → ¬ G b) (hF : ∀ b i, X b i → ∀ j, j ≠ r → ¬ blks (F j) b)
    (hX : ∀ b i, b < B.w0.heap.size → X b i → B.X0 b i) (hrep : vrel G' w' t m2 x2 (ts.getD r undef) f') (nd : ND f') (ap : ∀ j, j ≠ r → Apart f' (F j))
    (ok : ∀ q ∈ f', ¬ G' q.blk ∧ q.blk < w'.heap.size ∧ (B.w0.heap.size ≤ q.blk ∨ ∃ z ∈ B.R0, z.blk = q.blk ∧ z.lo ≤ q.lo ∧ q.hi ≤ z.hi))
    (hb : b = false → (∀ (a : Addr) v, w.cell? a = some v → X a.block a.off → isAddr v = false) ∧ ∀ p u, getP p t m x = some u → ∃ u', getP p t m2 x2 = some u' ∧ u'.t = u.t) :
    RelX B G' (upd F r f') H (env.put ⟨r, b, .val t m2 x2⟩) ts w' := by
  obtain ⟨hlt, hroot⟩ := R.rootVal hr
  let env' := env.put ⟨r, b, .val t m2 x2⟩
  have hsame := Env.get_put' env r b (.val t m2 x2) hlt
  have hother : ∀ i, i ≠ r → env'.get i = env.get i := fun i h => Env.get_put_other env ⟨r, b, .val t m2 x2⟩ h
  have hep : ∀ i, (env.get i).ep ≤ (env'.get i).ep := fun i => by
    by_cases h : i = r
    · subst h; show _ ≤ ((env.put _).get i).ep; rw [hsame]; cases b <;> simp
    · rw [hother i h]; exact Nat.le_refl _
  have hwc : ∀ i, (env.get i).wc ≤ (env'.get i).wc := fun i => by
    by_cases h : i = r
    · subst h; show _ ≤ ((env.put _).get i).wc; rw [hsame]; simp
    · rw [hother i h]; exact Nat.le_refl _
  have hfj : ∀ j, j ≠ r → ∀ q ∈ F j, ∀ i, ¬ X q.blk i := fun j hj q hq i hx => hF _ _ hx j hj ⟨q, hq, rfl⟩
  have key : ∀ (e : Entry) (v : Value) (f : List Res), (∀ q ∈ f, ∀ i, ¬ X q.blk i) → slotRel G w env ts e v f → slotRel G' w' env' ts e v f := by
    intro e
    induction e with
    | undef => intro v f _ h; exact h
    | val t m x => intro v f hf h; exact vrel_frame hs.toSame hGG hG hf h
    | addr r' ep p =>
      rintro v f _ ⟨h1, h2, h3⟩
      refine ⟨h1, Nat.le_trans h2 (hep r'), fun he => ?_⟩
      by_cases hrr : r' = r
      · subst hrr
        have hbf : b = false := by
          cases b with
          | false => rfl
          | true => have he' : ((env.put ⟨r', true, .val t m2 x2⟩).get r').ep = ep := he; rw [hsame] at he'; simp only at he'; omega
        subst hbf
        obtain ⟨hip, hgp⟩ := hb rfl
        have he' : ((env.put ⟨r', false, .val t m2 x2⟩).get r').ep = ep := he
        rw [hsame] at he'
        obtain ⟨t', m', x', u, ad, hr', hu, hw, hv⟩ := h3 he'
        rw [hr] at hr'
        cases hr'
        obtain ⟨u', hu', _⟩ := hgp p u hu
        refine ⟨t, m2, x2, u', ad, ?_, hu', walkV_ip hs.toSame hip _ _ _ _ hw, hv⟩
        show ((env.put ⟨r', false, .val t m2 x2⟩).get r').e = _
        rw [hsame]
      · rw [hother r' hrr] at he ⊢
        obtain ⟨t', m', x', u, ad, hr', hu, hw, hv⟩ := h3 he
        obtain ⟨_, hrep'⟩ := R.rootVal hr'
        obtain ⟨_, _, _, _, _, _, hst⟩ := readV p t' m' x' _ _ u ad hrep'.1 hu hw
        exact ⟨t', m', x', u, ad, hr', hu, hst X w' hs.toSame (fun b i h => ⟨hG b i h, hF b i h r' hrr⟩), hv⟩
    | pref r' ep wc p =>
      rintro v f _ ⟨h1, h2, h2', h3⟩
      refine ⟨h1, Nat.le_trans h2 (hep r'), Nat.le_trans h2' (hwc r'), fun he => ?_⟩
      by_cases hrr : r' = r
      · subst hrr
        have hbf : b = false := by
          cases b with
          | false => rfl
          | true => have he' : ((env.put ⟨r', true, .val t m2 x2⟩).get r').ep = ep := he; rw [hsame] at he'; simp only at he'; omega
        subst hbf
        obtain ⟨hip, hgp⟩ := hb rfl
        have he' : ((env.put ⟨r', false, .val t m2 x2⟩).get r').ep = ep := he
        rw [hsame] at he'
        obtain ⟨t', m', x', u, hr', hu, hc⟩ := h3 he'
        rw [hr] at hr'
        cases hr'
        obtain ⟨u', hu', htt⟩ := hgp p u hu
        refine ⟨t, m2, x2, u', ?_, hu', fun ha => ?_⟩
        · show ((env.put ⟨r', false, .val t m2 x2⟩).get r').e = _
          rw [hsame]
        · have ha' : aliasOk u' wc ((env.get r').wc + 1) = true := by
            have : ((env.put ⟨r', false, .val t m2 x2⟩).get r').wc = (env.get r').wc + 1 := by rw [hsame]
            exact this ▸ ha
          have hsing : u.t.single = true := by
            simp only [aliasOk, Bool.or_eq_true, beq_iff_eq] at ha'
            rcases ha' with h | h
            · rw [← htt]; exact h
            · omega
          obtain ⟨c, hv, hl, hp⟩ := hc (by simp [aliasOk, hsing])
          refine ⟨c, by rw [htt]; exact hv, by rw [htt]; exact hl, ?_⟩
          rcases hp with hp | ⟨ad, hw, hcc⟩
          · exact .inl hp
          · refine .inr ⟨ad, walkV_ip hs.toSame hip _ _ _ _ hw, ?_⟩
            obtain ⟨c1, fu, hc1, hr1, _, _, _⟩ := readV p t m x _ _ u ad hroot.1 hu hw
            have hcc1 : c = c1 := cellsAt_inj hcc hc1 (by rw [hl, rep_len _ _ _ _ _ hr1])
            subst hcc1
            refine hs.toSame.cellsAt hcc (fun j hj hx => ?_)
            have hcell := hc1 j _ (List.getElem?_eq_getElem hj)
            have := hip _ _ hcell (by rw [add_block]; exact hx)
            rw [rep_single _ _ _ _ _ hsing hr1 _ (List.getElem_mem hj)] at this
            cases this
      · rw [hother r' hrr] at he ⊢
        obtain ⟨t', m', x', u, hr', hu, hc⟩ := h3 he
        refine ⟨t', m', x', u, hr', hu, fun ha => ?_⟩
        obtain ⟨c, hv, hl, hp | ⟨ad, hw, hcc⟩⟩ := hc ha
        · exact ⟨c, hv, hl, .inl hp⟩
        · obtain ⟨_, hrep'⟩ := R.rootVal hr'
          obtain ⟨c1, fu, hc1, hr1, _, hbk, hst⟩ := readV p t' m' x' _ _ u ad hrep'.1 hu hw
          refine ⟨c, hv, hl, .inr ⟨ad, hst X w' hs.toSame (fun b i h => ⟨hG b i h, hF b i h r' hrr⟩), hs.toSame.cellsAt hcc (fun j _ hx => ?_)⟩⟩
          rcases hbk with hb | hb
          · exact hG _ _ hx hb
          · exact hF _ _ hx r' hrr hb
    | ref t x => rintro v f _ ⟨h1, ad, cs, h2, h3, h4, h5⟩; exact ⟨h1, ad, cs, h2, hGG _ h3, hs.toSame.cellsAt h4 (fun j _ hx => hG _ _ hx h3), rep_frame hs.toSame hGG hG _ _ _ _ _ (fun _ h => by simp at h) h5⟩
    | nq neg e => intro v f _ h; exact h
    | tup es => rintro v f hf ⟨vs, rfl, h⟩; exact ⟨vs, rfl, tupRel_frame hs.toSame hGG hG _ _ _ hf h⟩
    | g c e ih =>
      intro v f hf h
      unfold slotRel at h ⊢
      split at h
      · exact ih v f hf h
      · exact h
  refine { len := by rw [Env.length_put]; exact R.len, slot := fun i hi => ?_, held := fun k h hk => ?_, out := fun i hi => ?_, nd := fun i => ?_, ap := fun i j hij => ?_, ok := fun i q hq => ?_,
           g0 := fun b hb => hGG b (R.g0 b hb), gl := hgl, turn := R.turn.trans hs (fun _ _ _ h => h) hX, chain := fun i g e' hi => ?_, lent := fun l hl' t' m' x' he => ?_ }
  · rw [Env.length_put] at hi
    by_cases h : i = r
    · subst h
      rw [hsame, upd_same]
      exact hrep
    · rw [upd_other F f' h]
      show slotRel G' w' env' ts (env'.get i).e _ _
      rw [hother i h]
      exact key _ _ _ (hfj i h) (R.slot i hi)
  · rw [Env.length_put] at *
    rw [upd_other F f' (by omega)]
    exact vrel_frame hs.toSame hGG hG (hfj _ (by omega)) (R.held k h hk)
  · rw [Env.length_put] at hi
    rw [upd_other F f' (by omega)]
    exact R.out i hi
  · unfold upd; split
    · exact nd
    · exact R.nd i
  · unfold upd
    split <;> split
    · omega
    · rename_i h1 h2; exact ap j h2
    · rename_i h1 h2; exact fun r hr q hq => (ap i h1 q hq r hr).symm
    · exact R.ap i j hij
  · unfold upd at hq
    split at hq
    · exact ok q hq
    · rename_i hne
      exact ⟨fun hg => hGn _ hg i hne ⟨q, hq, rfl⟩, Nat.lt_of_lt_of_le (R.ok i q hq).2.1 hs.size, (R.ok i q hq).2.2⟩
  · have hi' : (env.get i).e = .g g e' := by
      by_cases h : i = r
      · subst h; rw [hsame] at hi; cases hi
      · have : (env'.get i).e = .g g e' := hi
        rw [hother i h] at this; exact this
    intro a ha
    obtain ⟨h1, h2⟩ := R.chain i g e' hi' a ha
    refine ⟨Nat.le_trans h1 (hep a.slot), fun h3 => ?_⟩
    by_cases h : a.slot = r
    · rw [h] at h2 h3 ⊢
      rw [hsame] at h3 ⊢
      have h4 : (env.get r).ep = a.ep := by
        rw [h] at h1
        cases b with
        | true => simp only at h3; omega
        | false => exact h3
      have h5 := h2 h4
      rw [hr] at h5
      cases t <;> simp only [gval] at h5 ⊢ <;> try cases h5
      have h6 := hrep.1
      have h7 := hroot.1
      simp only [unpack, Ty.agg, if_false, Bool.false_eq_true, rep, List.cons.injEq, and_true] at h6 h7
      have h8 := h6.1.symm.trans h7.1
      simp only [Value.bool.injEq] at h8
      rw [h8]
    · show gval (env'.get a.slot).e = some a.v
      have h3' : (env'.get a.slot).ep = a.ep := h3
      rw [hother _ h] at h3' ⊢
      exact h2 h3'
  · by_cases h : l.1 = r
    · rw [h] at he ⊢
      rw [hsame] at he
      cases he
      have := R.lent l hl' t' m x (by rw [h]; exact hr)
      rw [h] at this
      exact this
    · have he' : (env'.get l.1).e = .val (.ptr t') m' x' := he
      rw [hother _ h] at he'
      exact R.lent l hl' t' m' x' he'

end
end Go.VL

namespace Go.VL

theorem Rd.run_bind {α β ρ : Type} {c : List GI} {d : Option Nat} (x : Rd α) (f : α → Rd β) (env : Env) (K : β → Env → Option ρ) :
    (x.bind f).run c d env K = x.run c d env fun a env' => (f a).run c d env' K := by
  induction x generalizing env with
  | ret a => rfl
  | get s k ih => simp only [Rd.bind, Rd.run]; exact ih _ env
  | put u k ih =>
    simp only [Rd.bind, Rd.run]
    cases gPut c d u with
    | none => rfl
    | some u => exact ih _
  | mov u k ih =>
    simp only [Rd.bind, Rd.run]
    cases mPut c d u with
    | none => rfl
    | some u => exact ih _
  | chk b k ih => simp only [Rd.bind, Rd.run]; rw [ih]
  | call t as k ih =>
    simp only [Rd.bind, Rd.run, TE.run]
    cases decAll (t.sig.ps.map (·.t)) as with
    | none => rfl
    | some s => simp only [ih]
  | fail => rfl

theorem Rd.run_bind' {α β ρ : Type} {c : List GI} {d : Option Nat} (x : Rd α) (f : α → Rd β) (env : Env) (K : β → Env → Option ρ) :
    (x >>= f).run c d env K = x.run c d env fun a env' => (f a).run c d env' K := Rd.run_bind x f env K

section
variable {ρ α : Type} {c : List GI} {d : Option Nat} {env : Env} {r : ρ}
@[simp] theorem Rd.run_pure (a : α) (K : α → Env → Option ρ) : (pure a : Rd α).run c d env K = K a env := rfl
@[simp] theorem Rd.run_ret (a : α) (K : α → Env → Option ρ) : (Rd.ret a).run c d env K = K a env := rfl
@[simp] theorem Rd.run_slot (s : Nat) (K : Sl → Env → Option ρ) : (Rd.slot s).run c d env K = K (env.get s) env := rfl
@[simp] theorem Rd.run_fail (K : α → Env → Option ρ) : (Rd.fail : Rd α).run c d env K = none := rfl

theorem Rd.run_opt {x : Option α} {K : α → Env → Option ρ} (h : (Rd.opt x).run c d env K = some r) : ∃ a, x = some a ∧ K a env = some r := by
  cases x with
  | none => simp [Rd.opt] at h
  | some a => exact ⟨a, rfl, h⟩

theorem Rd.run_guard {b : Bool} {K : Unit → Env → Option ρ} (h : (Rd.guard b).run c d env K = some r) : b = true ∧ K () env = some r := by
  cases b with
  | false => simp [Rd.guard] at h
  | true => exact ⟨rfl, h⟩

theorem Rd.run_check (hg : gOf c = true) {b : Bool} {K : Unit → Env → Option ρ} (h : (Rd.check b).run c d env K = some r) : b = true ∧ K () env = some r := by
  have e : okB c b = b := by cases c <;> simp [okB, hg]
  simp only [Rd.check, Rd.run, e] at h
  cases b with
  | false => simp at h
  | true => exact ⟨rfl, h⟩

theorem mPut_some {u u' : Up} (h : mPut c d u = some u') : u' = u ∧ (c = [] ∨ (c ≠ [] ∧ u.e = .undef ∧ u.b = true ∧ (∀ e, d = some e → u.s ≠ e) ∧ ∀ a ∈ c, a.slot ≠ u.s)) := by
  cases c with
  | nil => simp only [mPut, Option.some.injEq] at h; exact ⟨h.symm, .inl rfl⟩
  | cons a c =>
    simp only [mPut] at h
    split at h
    · rename_i he hb
      split at h
      · rename_i hk
        simp only [Option.some.injEq] at h
        simp only [Bool.and_eq_true, Bool.not_eq_true', beq_eq_false_iff_ne, List.all_eq_true] at hk
        exact ⟨h.symm, .inr ⟨by simp, he, hb, fun e h => by cases h; exact hk.1, hk.2⟩⟩
      · cases h
    · cases h

theorem Rd.run_moveU {s : Nat} {b : Bool} {e : Entry} {K : Unit → Env → Option ρ} (h : (Rd.move s b e).run c d env K = some r) :
    (c = [] ∨ ∀ a ∈ c, (env.put ⟨s, b, e⟩).get a.slot = env.get a.slot) ∧ K () (env.put ⟨s, b, e⟩) = some r := by
  simp only [Rd.move, Rd.run] at h
  cases hm : mPut c d ⟨s, b, e⟩ with
  | none => simp [hm] at h
  | some u =>
    simp only [hm] at h
    obtain ⟨rfl, hk⟩ := mPut_some hm
    exact ⟨hk.imp id fun hk a ha => Env.get_put_other env ⟨s, b, e⟩ (hk.2.2.2.2 a ha), h⟩

theorem Rd.run_move {s : Nat} {b : Bool} {e : Entry} {K : Unit → Env → Option ρ} (he : e ≠ .undef) (h : (Rd.move s b e).run c d env K = some r) : c = [] ∧ K () (env.put ⟨s, b, e⟩) = some r := by
  simp only [Rd.move, Rd.run] at h
  cases hm : mPut c d ⟨s, b, e⟩ with
  | none => simp [hm] at h
  | some u =>
    simp only [hm] at h
    obtain ⟨rfl, hk⟩ := mPut_some hm
    exact ⟨hk.resolve_right fun hk => he hk.2.1, h⟩

theorem Rd.run_set {s : Nat} {b : Bool} {e : Entry} {K : Unit → Env → Option ρ} (h : (Rd.set s b e).run c d env K = some r) :
    (c = [] ∧ K () (env.put ⟨s, b, e⟩) = some r) ∨ (c ≠ [] ∧ d = some s ∧ K () (env.put ⟨s, b, .g c e⟩) = some r) := by
  cases c with
  | nil => exact .inl ⟨rfl, h⟩
  | cons a g =>
    simp only [Rd.set, Rd.run, gPut] at h
    cases d with
    | none => simp at h
    | some d =>
      simp only at h
      cases hs : s == d with
      | false => simp [hs] at h
      | true =>
        simp only [hs] at h
        exact .inr ⟨by simp, by simpa using (beq_iff_eq.1 hs).symm, h⟩
end

/-- the slots that the chain hangs on are as they were -/
def Kept (c : List GI) (env env' : Env) : Prop := c = [] ∨ ∀ a ∈ c, env'.get a.slot = env.get a.slot
theorem Kept.refl (c : List GI) (env : Env) : Kept c env env := .inr fun _ _ => rfl
theorem Kept.trans {c : List GI} {e1 e2 e3 : Env} (h : Kept c e1 e2) (k : Kept c e2 e3) : Kept c e1 e3 := by
  rcases h with h | h
  · exact .inl h
  · rcases k with k | k
    · exact .inl k
    · exact .inr fun a ha => (k a ha).trans (h a ha)

/-- the chain's items are what stands in their slots -/
def Cur (env : Env) (c : List GI) : Prop := ∀ b ∈ c, (env.get b.slot).ep = b.ep ∧ gval (env.get b.slot).e = some b.v

theorem gOf_iff (c : List GI) : gOf c = true ↔ ∀ a ∈ c, a.ok = true := by
  induction c with
  | nil => simp [gOf]
  | cons a c ih =>
    cases c with
    | nil => simp [gOf]
    | cons b c =>
      simp only [gOf, Bool.and_eq_true] at ih ⊢
      rw [ih]
      simp

def evalO (ts : List Value) : Operand → Value
  | .tmp t => ts.getD t undef
  | .const v => v
  | .global g => .pointer (some ⟨g, 0, none⟩)
  | .func f => .func (.func f) #[] #[]

theorem eval_eq (a : Act) (o : Operand) : a.eval o = evalO a.tmps.toList o := by
  cases o with
  | tmp t => simp [Act.eval, evalO, Array.getD, List.getD]; by_cases h : t < a.tmps.size <;> simp [h]
  | _ => rfl

section
variable {B : Base} {G : Nat → Prop} {F : Nat → List Res} {H : List (TV × Value)} {env : Env} {ts : List Value} {w : World}

/-- what an operand's slot says of its value -/
def OpRel (G : Nat → Prop) (F : Nat → List Res) (env : Env) (ts : List Value) (w : World) (o : Operand) (sl : Sl) (v : Value) : Prop :=
  v = evalO ts o ∧ (sl.e = .undef ∨ match slotOf o with
    | some s => s < env.length ∧ sl.ep = (env.get s).ep ∧ sl.wc = (env.get s).wc ∧ ((env.get s).e = sl.e ∨ ∃ g, (env.get s).e = .g g sl.e ∧ gOf g = true) ∧ slotRel G w env ts sl.e v (F s)
    | none => ∃ t m x, sl.e = .val t m x ∧ vrel G w t m x v [])

theorem const_rel {t : Ty} {v : Value} {u : TV} (h : constTV t v = some u) : vrel G w u.t u.m u.x v [] := by
  unfold constTV at h
  split at h
  · split at h
    · rename_i k k' n hk
      cases h
      subst hk
      exact ⟨⟨rfl, rfl⟩, rfl⟩
    · cases h
  · cases h; exact ⟨⟨rfl, rfl⟩, rfl⟩
  · cases h; exact ⟨⟨⟨_, rfl, rfl⟩, rfl⟩, rfl⟩
  · cases h; exact ⟨.inl ⟨rfl, rfl, rfl⟩, rfl⟩
  · cases h; exact ⟨⟨rfl, rfl, rfl⟩, rfl⟩
  · cases h; exact ⟨⟨rfl, rfl⟩, rfl⟩
  · cases h

theorem chainIn_ok (R : RelX B G F H env ts w) {i : Nat} {g c : List GI} {e : Entry} (he : (env.get i).e = .g g e) (hin : chainIn g c = true) (hc : Cur env c) (hg : gOf c = true) : gOf g = true := by
  rw [gOf_iff] at hg ⊢
  intro a ha
  simp only [chainIn, List.all_eq_true, List.any_eq_true, Bool.and_eq_true, beq_iff_eq] at hin
  obtain ⟨b, hb, ⟨h1, h2⟩, h3⟩ := hin a ha
  obtain ⟨h4, h5⟩ := hc b hb
  obtain ⟨_, h6⟩ := R.chain i g e he a ha
  have h7 := h6 (by rw [h1, h4, ← h2])
  rw [h1, h5] at h7
  simp only [Option.some.injEq] at h7
  have h8 := hg b hb
  unfold GI.ok at h8 ⊢
  rw [h3, ← h7]
  exact h8

theorem opnd_run {ρ : Type} {c cc : List GI} {d : Option Nat} {ty : Option Ty} {o : Operand} {K : Sl → Env → Option ρ} {r : ρ} (R : RelX B G F H env ts w) (hc : Cur env c) (hg : gOf c = true)
    (h : (opnd c ty o).run cc d env K = some r) : ∃ sl, K sl env = some r ∧ OpRel G F env ts w o sl (evalO ts o) := by
  cases o with
  | tmp s =>
    simp only [opnd, Rd.run_bind', Rd.run_slot, useE] at h
    split at h
    · rename_i g e he
      rw [Rd.run_bind'] at h
      obtain ⟨hin, h⟩ := Rd.run_guard h
      refine ⟨_, h, rfl, ?_⟩
      by_cases hu : e = .undef
      · exact .inl hu
      · right
        have hlt := Env.get_lt he (by simp)
        have hok := chainIn_ok R he hin hc hg
        refine ⟨hlt, rfl, rfl, .inr ⟨g, he, hok⟩, ?_⟩
        have := R.slot s hlt
        rw [he] at this
        simp only [slotRel, hok] at this
        exact this
    · simp only [Rd.run_ret] at h
      refine ⟨_, h, rfl, ?_⟩
      by_cases hu : (env.get s).e = .undef
      · exact .inl hu
      · have hlt := Env.get_lt rfl hu
        exact .inr ⟨hlt, rfl, rfl, .inl rfl, R.slot s hlt⟩
  | const v =>
    simp only [opnd] at h
    obtain ⟨sl, hsl, h⟩ := Rd.run_opt h
    refine ⟨sl, h, rfl, .inr ?_⟩
    simp only [Option.map_eq_some_iff, Option.bind_eq_some_iff] at hsl
    obtain ⟨u, ⟨t, _, hu⟩, rfl⟩ := hsl
    exact ⟨u.t, u.m, u.x, rfl, const_rel hu⟩
  | func f =>
    simp only [opnd, Rd.run_ret] at h
    exact ⟨_, h, rfl, .inr ⟨_, _, _, rfl, ⟨rfl, rfl⟩, rfl⟩⟩
  | global g => simp [opnd] at h

/-- a reference's root -/
theorem root_run {ρ : Type} {c : List GI} {d : Option Nat} {s ep : Nat} {K : TV × Nat → Env → Option ρ} {r : ρ} (h : (root s ep).run c d env K = some r) :
    ∃ t m x, (env.get s).e = .val t m x ∧ (env.get s).ep = ep ∧ K (⟨t, m, x⟩, (env.get s).wc) env = some r := by
  simp only [root, Rd.run_bind', Rd.run_slot] at h
  split at h
  · rename_i e wc t m x hsl
    rw [Rd.run_bind'] at h
    have h1 := Rd.run_guard h
    clear h
    obtain ⟨he, h⟩ := h1
    simp only [beq_iff_eq] at he
    refine ⟨t, m, x, ?_, ?_, ?_⟩
    · rw [hsl]
    · rw [hsl]; exact he
    · rw [hsl]; exact h
  · simp at h

theorem place_run {ρ : Type} {c : List GI} {d : Option Nat} {s ep : Nat} {p : List Step} {K : TV → Env → Option ρ} {r : ρ} (h : (place s ep p).run c d env K = some r) :
    ∃ t m x u, (env.get s).e = .val t m x ∧ (env.get s).ep = ep ∧ getP p t m x = some u ∧ K u env = some r := by
  simp only [place, Rd.run_bind'] at h
  obtain ⟨t, m, x, h1, h2, h⟩ := root_run h
  obtain ⟨u, hu, h⟩ := Rd.run_opt h
  exact ⟨t, m, x, u, h1, h2, hu, h⟩

/-- the root that an operand's value hangs on -/
def hangs (o : Operand) (e : Entry) (q : Nat) : Prop :=
  (∃ ep wc p, e = .pref q ep wc p) ∨ ((∃ t m x, e = .val t m x) ∧ slotOf o = some q)

/-- what is looked at -/
theorem peek_run {ρ : Type} {c : List GI} {d : Option Nat} {o : Operand} {sl : Sl} {v : Value} {K : TV → Env → Option ρ} {r : ρ} (R : RelX B G F H env ts w) (ho : OpRel G F env ts w o sl v)
    (h : (peek sl.e).run c d env K = some r) : ∃ u f, K u env = some r ∧ vrel G w u.t u.m u.x v f ∧ (f = [] ∨ ∃ q, hangs o sl.e q ∧ q < env.length ∧ ∀ z ∈ f, z ∈ F q) := by
  obtain ⟨e, he⟩ : ∃ e, sl.e = e := ⟨_, rfl⟩
  rw [he] at h
  cases e with
  | val t m x =>
    simp only [peek, Rd.run_ret] at h
    rcases ho.2 with hu | ho
    · rw [he] at hu; cases hu
    · cases hs : slotOf o with
      | some s =>
        rw [hs] at ho
        obtain ⟨hlt, _, _, _, hrel⟩ := ho
        rw [he] at hrel
        exact ⟨⟨t, m, x⟩, F s, h, hrel, .inr ⟨s, .inr ⟨⟨t, m, x, he⟩, hs⟩, hlt, fun _ h => h⟩⟩
      | none =>
        rw [hs] at ho
        obtain ⟨t', m', x', he', hrel⟩ := ho
        rw [he] at he'
        cases he'
        exact ⟨⟨t, m, x⟩, [], h, hrel, .inl rfl⟩
  | pref s ep wc p =>
    simp only [peek, Rd.run_bind'] at h
    obtain ⟨t, m, x, h1, h2, h⟩ := root_run h
    obtain ⟨u, hu, h⟩ := Rd.run_opt h
    obtain ⟨ha, h⟩ := Rd.run_guard h
    simp only [Rd.run_pure] at h
    have hrel : slotRel G w env ts (.pref s ep wc p) v [] := by
      rcases ho.2 with hu | ho
      · rw [he] at hu; cases hu
      · cases hs : slotOf o with
        | some s' =>
          rw [hs] at ho
          obtain ⟨hlt, _, _, _, hrel⟩ := ho
          rw [he] at hrel
          exact ⟨rfl, hrel.2⟩
        | none =>
          rw [hs] at ho
          obtain ⟨t', m', x', he', _⟩ := ho
          rw [he] at he'
          cases he'
    obtain ⟨_, _, _, hrel⟩ := hrel
    obtain ⟨t', m', x', u', hr', hu', hc⟩ := hrel h2
    rw [h1] at hr'
    cases hr'
    rw [hu] at hu'
    cases hu'
    obtain ⟨cs, rfl, hl, hp⟩ := hc ha
    obtain ⟨hlt, hroot⟩ := R.rootVal h1
    rcases hp with ⟨rfl, rfl⟩ | ⟨ad, hw, hcc⟩
    · simp only [getP, Option.some.injEq] at hu
      subst hu
      exact ⟨_, F s, h, vrel_pack hroot.1, .inr ⟨s, .inl ⟨_, _, _, he⟩, hlt, fun _ h => h⟩⟩
    · obtain ⟨c1, f, hc1, hr1, hf, _, _⟩ := readV p t m x _ _ u ad hroot.1 hu hw
      have hcc1 : cs = c1 := cellsAt_inj hcc hc1 (by rw [hl, rep_len _ _ _ _ _ hr1])
      subst hcc1
      exact ⟨u, f, h, vrel_pack hr1, .inr ⟨s, .inl ⟨_, _, _, he⟩, hlt, hf⟩⟩
  | _ => simp [peek] at h

theorem plain_md {m : Md} (h : m.plain = true) : m = .s := by cases m <;> simp [Md.plain] at h; rfl

theorem plainV_run {ρ : Type} {c : List GI} {d : Option Nat} {o : Operand} {sl : Sl} {v : Value} {K : TV → Env → Option ρ} {r : ρ} (R : RelX B G F H env ts w) (ho : OpRel G F env ts w o sl v)
    (h : (plainV sl.e).run c d env K = some r) : ∃ t x, K ⟨t, .s, x⟩ env = some r ∧ vrel G w t .s x v [] := by
  simp only [plainV, Rd.run_bind'] at h
  obtain ⟨u, f, h, hv, _⟩ := peek_run R ho h
  obtain ⟨hm, h⟩ := Rd.run_guard h
  simp only [Rd.run_pure] at h
  obtain ⟨t, m, x⟩ := u
  have hm := plain_md hm
  simp only at hm
  subst hm
  have hf := rep_s_fp _ _ _ _ hv.1
  subst hf
  exact ⟨t, x, h, hv⟩

/-- the place that a pointer names -/
theorem asPlace_run {ρ : Type} {c : List GI} {d : Option Nat} {o : Operand} {sl : Sl} {v : Value} {K : Nat × Nat × List Step → Env → Option ρ} {r : ρ} (hg : gOf c = true) (R : RelX B G F H env ts w) (ho : OpRel G F env ts w o sl v)
    (h : (asPlace o sl).run c d env K = some r) : ∃ q ep p, K (q, ep, p) env = some r ∧ slotRel G w env ts (.addr q ep p) v [] := by
  unfold asPlace at h
  have ho2 : sl.e ≠ .undef → match slotOf o with
    | some s => s < env.length ∧ sl.ep = (env.get s).ep ∧ sl.wc = (env.get s).wc ∧ ((env.get s).e = sl.e ∨ ∃ g, (env.get s).e = .g g sl.e ∧ gOf g = true) ∧ slotRel G w env ts sl.e v (F s)
    | none => ∃ t m x, sl.e = .val t m x ∧ vrel G w t m x v [] := fun hu => ho.2.resolve_left hu
  split at h
  · rename_i q ep p he
    simp only [Rd.run_ret] at h
    refine ⟨q, ep, p, h, ?_⟩
    have := ho2 (by rw [he]; simp)
    cases hs : slotOf o with
    | some s => rw [hs] at this; have := this.2.2.2.2; rw [he] at this; exact ⟨rfl, this.2⟩
    | none => rw [hs] at this; obtain ⟨t', m', x', he', _⟩ := this; rw [he] at he'; cases he'
  · rename_i a m x he
    cases hs : slotOf o with
    | none => simp [hs] at h
    | some s =>
      simp only [hs, Rd.run_bind'] at h
      obtain ⟨t0, m0, x0, h0, _, h⟩ := root_run h
      obtain ⟨hsome, h⟩ := Rd.run_check hg h
      simp only [Rd.run_ret] at h
      have := ho2 (by rw [he]; simp)
      rw [hs] at this
      obtain ⟨hlt, hep, _, hent, hrel⟩ := this
      rw [he] at hrel hent
      refine ⟨s, sl.ep, [.der], h, rfl, by rw [hep]; exact Nat.le_refl _, fun _ => ?_⟩
      have hv := hrel
      obtain ⟨hr, hpk⟩ := hrel
      simp only [unpack, Ty.agg, if_false, Bool.false_eq_true] at hr hpk
      obtain ⟨y, b, oo, cc, f, rfl, hcs, _, _, _, _⟩ := hr
      simp only [List.cons.injEq, and_true] at hcs
      have hval : v = ts.getD s undef := by
        have := ho.1
        cases o <;> simp only [slotOf] at hs <;> try cases hs
        exact this
      rcases hent with hent | ⟨g, hent, _⟩
      · refine ⟨.ptr a, .o m, some y, ⟨a, m, y⟩, ⟨b, oo, none⟩, hent, by simp [getP], ?_, hcs⟩
        rw [← hval, hcs]
        simp [unpack, Ty.agg, walkV, walkA]
      · rw [h0] at hent; cases hent
  · rename_i q ep wc p he
    rw [Rd.run_bind'] at h
    obtain ⟨t, m, x, u, h1, h2, hu, h⟩ := place_run h
    split at h
    · rename_i a m2 y
      rw [Rd.run_bind'] at h
      obtain ⟨hsome, h⟩ := Rd.run_check hg h
      simp only [Rd.run_ret] at h
      have := ho2 (by rw [he]; simp)
      cases hs : slotOf o with
      | none => rw [hs] at this; obtain ⟨t', m', x', he', _⟩ := this; rw [he] at he'; cases he'
      | some s =>
        rw [hs] at this
        have hrel := this.2.2.2.2
        rw [he] at hrel
        obtain ⟨_, hle, _, hrel⟩ := hrel
        refine ⟨q, ep, p ++ [.der], h, rfl, hle, fun _ => ?_⟩
        obtain ⟨t', m', x', u', hr', hu', hc⟩ := hrel h2
        rw [h1] at hr'
        cases hr'
        rw [hu] at hu'
        cases hu'
        obtain ⟨cs, rfl, hl, hp⟩ := hc (by simp [aliasOk, Ty.single])
        obtain ⟨hlt, hroot⟩ := R.rootVal h1
        rcases hp with ⟨rfl, rfl⟩ | ⟨ad, hw, hcc⟩
        · simp only [getP, Option.some.injEq, TV.mk.injEq] at hu
          obtain ⟨rfl, rfl, hxy⟩ := hu
          cases hxy
          have hr := hroot.1
          simp only [unpack, Ty.agg, if_false, Bool.false_eq_true] at hr
          obtain ⟨z, b, oo, cc, f, rfl, hcs, _⟩ := hr
          simp only [List.cons.injEq, and_true] at hcs
          refine ⟨.ptr a, .o m2, some z, ⟨a, m2, z⟩, ⟨b, oo, none⟩, h1, by simp [getP], ?_, ?_⟩
          · rw [hcs]; simp [unpack, Ty.agg, walkV, walkA]
          · simp only [pack, unpack, Ty.agg, if_false, Bool.false_eq_true, List.headD_cons]
            exact hcs
        · obtain ⟨c1, f, hc1, hr1, hf, _, _⟩ := readV p t m x _ _ _ ad hroot.1 hu hw
          have hcc1 : cs = c1 := cellsAt_inj hcc hc1 (by rw [hl, rep_len _ _ _ _ _ hr1])
          subst hcc1
          obtain ⟨z, b, oo, cc, f, hz, rfl, _⟩ := hr1
          simp only at hz
          subst hz
          refine ⟨t, m, x, ⟨a, m2, z⟩, ⟨b, oo, none⟩, h1, ?_, ?_, rfl⟩
          · rw [getP_append, hu]; simp [getP]
          · rw [walkV_append p [.der] t m x _ _ ad hu hw]
            have h0 : w.cell? ad = some (.pointer (some ⟨b, oo, none⟩)) := by
              have := hc1 0 _ rfl
              simpa [Addr.add] using this
            simp [walkA, h0]
    · simp at h
  · simp at h

end
end Go.VL

namespace Go.VL

theorem rep_hole {G : Nat → Prop} {w : World} : ∀ (t : Ty) (m : Md) (x : t.den) (cs : List Value) (fp : List Res), rep G w t m x cs fp → rep G w t .h x cs [] := by
  intro t
  induction t with
  | int k => intro m x cs fp h; exact ⟨h.1, rfl⟩
  | bool => intro m x cs fp h; exact ⟨h.1, rfl⟩
  | str => intro m x cs fp h; exact ⟨h.1, rfl⟩
  | unit => intro m x cs fp h; exact ⟨h.1, rfl⟩
  | fn => intro m x cs fp h; exact ⟨h.1, rfl⟩
  | pair a b iha ihb =>
    intro m x cs fp h
    obtain ⟨c1, c2, f1, f2, h1, h2, rfl, rfl⟩ := h
    exact ⟨c1, c2, [], [], iha _ _ _ _ h1, ihb _ _ _ _ h2, rfl, rfl⟩
  | arr n a ih =>
    intro m x cs fp h
    refine ⟨h.1, ?_⟩
    have : ∀ (xs : List a.den) cs fp, repA (rep G w a m.e) xs cs fp → repA (rep G w a .h) xs cs [] := by
      intro xs
      induction xs with
      | nil => intro cs fp h; exact ⟨h.1, rfl⟩
      | cons y ys ih2 =>
        intro cs fp h
        obtain ⟨c1, c2, f1, f2, h1, h2, rfl, rfl⟩ := h
        exact ⟨c1, c2, [], [], ih _ _ _ _ h1, ih2 _ _ h2, rfl, rfl⟩
    exact this x cs fp h.2
  | list a ih =>
    intro m x cs fp h
    refine ⟨?_, rfl⟩
    cases m with
    | h => exact h.1
    | o m => rcases h with ⟨_, rfl, _⟩ | ⟨b, o, cap, fs, rfl, _⟩ <;> exact ⟨_, _, _, rfl⟩
    | s => obtain ⟨⟨A, cap, rfl, _⟩, _⟩ := h; exact ⟨_, _, _, rfl⟩
    | p _ _ => obtain ⟨⟨A, cap, rfl, _⟩, _⟩ := h; exact ⟨_, _, _, rfl⟩
  | ptr a ih =>
    intro m x cs fp h
    refine ⟨?_, rfl⟩
    cases m with
    | h => exact h.1
    | o m => obtain ⟨y, b, o, c, f, _, rfl, _⟩ := h; exact ⟨_, rfl⟩
    | s => obtain ⟨_, rfl, _⟩ := h; exact ⟨_, rfl⟩
    | p _ _ => obtain ⟨_, rfl, _⟩ := h; exact ⟨_, rfl⟩

theorem walkV_der {w : World} {t : Ty} {cs : List Value} {ad : Addr} (h : walkV w [.der] t cs = some ad) : ∃ a, t = .ptr a ∧ cs = [.pointer (some ad)] := by
  cases t with
  | ptr a =>
    refine ⟨a, rfl, ?_⟩
    match cs, h with
    | [.pointer (some ad0)], h =>
      simp only [walkV, walkA, Option.some.injEq] at h
      rw [h]
  | _ => simp [walkV] at h

theorem set_getD_self (ts : List Value) (s : Nat) : ts.set s (ts.getD s undef) = ts := by
  apply List.ext_getElem?
  intro i
  by_cases h : i = s
  · subst h
    by_cases hl : i < ts.length
    · simp [hl, List.getD]
    · simp [hl]
  · simp [List.getElem?_set_ne (Ne.symm h)]

section
variable {B : Base} {G : Nat → Prop} {F : Nat → List Res} {H : List (TV × Value)} {env : Env} {ts : List Value} {w : World}

theorem ND.sub {f g : List Res} (h : ND g) (hs : f.Sublist g) : ND f := List.Pairwise.sublist hs h

/-- a slot is moved out, and its value held -/
theorem RelX.moveOut (R : RelX B G F H env ts w) {s : Nat} {t : Ty} {m : Md} {x : t.den} (hs : s < env.length) (hv : vrel G w t m x (ts.getD s undef) (F s)) :
    RelX B G (upd (upd F s []) (env.length + H.length) (F s)) (H ++ [(⟨t, m, x⟩, ts.getD s undef)]) (env.put ⟨s, true, .undef⟩) ts w := by
  have R1 := R.setSlot (d := s) (e := .undef) (c := ts.getD s undef) (f := []) hs trivial List.Pairwise.nil (fun _ _ r hr => by simp at hr) (fun r hr => by simp at hr) (fun _ _ h => by cases h) (fun _ _ _ _ _ _ h => by cases h)
  rw [set_getD_self] at R1
  have := R1.hold (v := ⟨t, m, x⟩) (c := ts.getD s undef) (f := F s) hv (R.nd s) (fun j => ?_) (fun r hr => R.ok s r hr)
  · rwa [Env.length_put] at this
  · by_cases h : j = s
    · subst h; rw [upd_same]; intro r _ q hq; simp at hq
    · rw [upd_other F _ h]; exact R.ap s j (Ne.symm h)

/-- a part of a root is moved out, and held -/
theorem RelX.moveOutOf (R : RelX B G F H env ts w) {s : Nat} {t : Ty} {m : Md} {x : t.den} {p : List Step} {u : TV} {ad : Addr} {c : List Value} {n : Md × t.den} (hr : (env.get s).e = .val t m x)
    (hu : getP p t m x = some u) (hw : walkV w p t (unpack t (ts.getD s undef)) = some ad) (hc : cellsAt w ad c) (hl : c.length = u.t.sz) (hset : setP p t m x ⟨u.t, .h, u.x⟩ = some n) :
    ∃ F', RelX B G F' (H ++ [(u, pack u.t c)]) (env.put ⟨s, true, .val t n.1 n.2⟩) ts w := by
  obtain ⟨hlt, hroot⟩ := R.rootVal hr
  obtain ⟨b, o, c1, f, pre, post, rfl, hc1, hr1, hF, hsp, hin, hupd⟩ := lensV p t m x _ _ u ⟨u.t, .h, u.x⟩ ad n hroot.1 (R.nd s) (fun r hr => (R.ok s r hr).1) hu hw rfl hset
  have hcc : c = c1 := cellsAt_inj hc hc1 (by rw [hl, rep_len _ _ _ _ _ hr1])
  subst hcc
  have hnew := hupd G w c [] (fun _ h => h) (Same.refl _ w) hc1 (rep_hole _ _ _ _ _ hr1)
  simp only [List.nil_append] at hnew
  have hsub : (pre ++ post).Sublist (F s) := by rw [hF]; exact List.Sublist.append (List.Sublist.refl _) (List.sublist_append_right _ _)
  have hsubf : f.Sublist (F s) := by rw [hF]; exact List.Sublist.trans (List.sublist_append_left _ _) (List.sublist_append_right _ _)
  have R1 := R.setRoot (G' := G) (r := s) (m2 := n.1) (x2 := n.2) (f' := pre ++ post) (w' := w) (X := fun _ _ => False) (b := true) hr (fun _ h => h) (fun b hb j _ ⟨q, hq, e⟩ => (R.ok j q hq).1 (e ▸ hb)) R.gl (Turn.refl _ w)
    (fun _ _ h => h.elim) (fun _ _ h => h.elim) (fun _ _ _ h => h.elim) ⟨hnew, hroot.2⟩ ((R.nd s).sub hsub) (fun j hj r hr q hq => R.ap s j (Ne.symm hj) r (hsub.subset hr) q hq) (fun q hq => R.ok s q (hsub.subset hq)) (fun h => by cases h)
  have ndF := R.nd s
  rw [hF] at ndF
  obtain ⟨_, nd2, nd3⟩ := ND.append.1 ndF
  obtain ⟨ndf, _, nd4⟩ := ND.append.1 nd2
  have R2 := R1.hold (v := u) (c := pack u.t c) (f := f) (vrel_pack hr1) ndf (fun j => ?_) (fun r hr => R.ok s r (hsubf.subset hr))
  · exact ⟨_, R2⟩
  · by_cases h : j = s
    · subst h
      rw [upd_same]
      intro r hr q hq
      rcases List.mem_append.1 hq with hq | hq
      · exact (nd3 q hq r (by simp [hr])).symm
      · exact nd4 r hr q hq
    · rw [upd_other F _ h]
      exact fun r hr q hq => R.ap s j (Ne.symm h) r (hsubf.subset hr) q hq

theorem take_run {ρ : Type} {c : List GI} {d : Option Nat} {o : Operand} {sl : Sl} {v : Value} {K : TV → Env → Option ρ} {r : ρ} (R : RelX B G F H env ts w) (ho : OpRel G F env ts w o sl v)
    (h : (take o sl.e).run c d env K = some r) : ∃ u F' env', K u env' = some r ∧ RelX B G F' (H ++ [(u, v)]) env' ts w ∧ env'.length = env.length ∧ Kept c env env' := by
  have ho2 : sl.e ≠ .undef → match slotOf o with
    | some s => s < env.length ∧ sl.ep = (env.get s).ep ∧ sl.wc = (env.get s).wc ∧ ((env.get s).e = sl.e ∨ ∃ g, (env.get s).e = .g g sl.e ∧ gOf g = true) ∧ slotRel G w env ts sl.e v (F s)
    | none => ∃ t m x, sl.e = .val t m x ∧ vrel G w t m x v [] := fun hu => ho.2.resolve_left hu
  have hval : ∀ s, slotOf o = some s → v = ts.getD s undef := fun s hs => by
    have := ho.1
    cases o <;> simp only [slotOf] at hs <;> try cases hs
    exact this
  obtain ⟨e, he⟩ : ∃ e, sl.e = e := ⟨_, rfl⟩
  rw [he] at h
  cases e with
  | val t m x =>
    have ho3 := ho2 (by rw [he]; simp)
    have plainCase : (∃ f, vrel G w t m x v f ∧ f = []) → K ⟨t, m, x⟩ env = some r →
        ∃ u F' env', K u env' = some r ∧ RelX B G F' (H ++ [(u, v)]) env' ts w ∧ env'.length = env.length ∧ Kept c env env' := by
      rintro ⟨f, hv, rfl⟩ h
      exact ⟨⟨t, m, x⟩, F, env, h, R.holdPlain hv, rfl, Kept.refl _ _⟩
    cases hs : slotOf o with
    | none =>
      rw [hs] at ho3
      obtain ⟨t', m', x', he', hrel⟩ := ho3
      rw [he] at he'
      cases he'
      cases hp : m.plain <;> simp only [take, hs, hp, Rd.run_pure] at h <;> exact plainCase ⟨[], hrel, rfl⟩ h
    | some s =>
      rw [hs] at ho3
      obtain ⟨hlt, _, _, _, hrel⟩ := ho3
      rw [he] at hrel
      cases hp : m.plain with
      | true =>
        simp only [take, hs, hp] at h
        have hm := plain_md hp
        subst hm
        exact plainCase ⟨F s, hrel, rep_s_fp _ _ _ _ hrel.1⟩ h
      | false =>
        simp only [take, hs, hp, Rd.run_bind'] at h
        obtain ⟨hc, h⟩ := Rd.run_moveU h
        simp only [Rd.run_pure] at h
        have hv : vrel G w t m x v (F s) := hrel
        have e := hval s hs
        subst e
        exact ⟨⟨t, m, x⟩, _, _, h, R.moveOut hlt hv, Env.length_put _ _, hc⟩
  | addr q ep p =>
    have ho3 := ho2 (by rw [he]; simp)
    have hrel : slotRel G w env ts (.addr q ep p) v [] := by
      cases hs : slotOf o with
      | some s => rw [hs] at ho3; have := ho3.2.2.2.2; rw [he] at this; exact ⟨rfl, this.2⟩
      | none => rw [hs] at ho3; obtain ⟨t', m', x', he', _⟩ := ho3; rw [he] at he'; cases he'
    match p, h, hrel with
    | [.der], h, hrel =>
      simp only [take, Rd.run_bind'] at h
      obtain ⟨t, m, x, h1, h2, h⟩ := root_run h
      obtain ⟨hc, h⟩ := Rd.run_moveU h
      simp only [Rd.run_pure] at h
      obtain ⟨_, _, hrel⟩ := hrel
      obtain ⟨t', m', x', u, ad, hr', hu, hw, hvv⟩ := hrel h2
      rw [h1] at hr'
      cases hr'
      obtain ⟨hlt, hroot⟩ := R.rootVal h1
      have hvts : v = ts.getD q undef := by
        rw [hvv]
        obtain ⟨a, rfl, hcs⟩ := walkV_der hw
        simp only [unpack, Ty.agg, if_false, Bool.false_eq_true, List.cons.injEq, and_true] at hcs
        exact hcs.symm
      subst hvts
      exact ⟨_, _, _, h, R.moveOut hlt hroot, Env.length_put _ _, hc⟩
    | [], h, _ => simp [take] at h
    | .fst :: _, h, _ => simp [take] at h
    | .snd :: _, h, _ => simp [take] at h
    | .idx _ :: _, h, _ => simp [take] at h
    | .der :: _ :: _, h, _ => simp [take] at h
  | pref q ep wc p =>
    have ho3 := ho2 (by rw [he]; simp)
    have hrel : slotRel G w env ts (.pref q ep wc p) v [] := by
      cases hs : slotOf o with
      | some s => rw [hs] at ho3; have := ho3.2.2.2.2; rw [he] at this; exact ⟨rfl, this.2⟩
      | none => rw [hs] at ho3; obtain ⟨t', m', x', he', _⟩ := ho3; rw [he] at he'; cases he'
    simp only [take, Rd.run_bind'] at h
    obtain ⟨t, m, x, h1, h2, h⟩ := root_run h
    obtain ⟨u, hu, h⟩ := Rd.run_opt h
    obtain ⟨ha, h⟩ := Rd.run_guard h
    simp only [Bool.and_eq_true] at ha
    obtain ⟨_, _, _, hrel⟩ := hrel
    obtain ⟨t', m', x', u', hr', hu', hcc⟩ := hrel h2
    rw [h1] at hr'
    cases hr'
    rw [hu] at hu'
    cases hu'
    obtain ⟨cs, rfl, hl, hp⟩ := hcc ha.2
    obtain ⟨hlt, hroot⟩ := R.rootVal h1
    cases p with
    | nil =>
      simp only [Rd.run_bind'] at h
      obtain ⟨hc, h⟩ := Rd.run_moveU h
      simp only [Rd.run_pure] at h
      simp only [getP, Option.some.injEq] at hu
      subst hu
      rcases hp with ⟨_, rfl⟩ | ⟨ad, hw, _⟩
      · simp only [hroot.2]
        exact ⟨_, _, _, h, R.moveOut hlt hroot, Env.length_put _ _, hc⟩
      · simp [walkV] at hw
    | cons s p =>
      simp only [Rd.run_bind'] at h
      obtain ⟨n, hset, h⟩ := Rd.run_opt h
      obtain ⟨hc, h⟩ := Rd.run_moveU h
      simp only [Rd.run_pure] at h
      rcases hp with ⟨hnil, _⟩ | ⟨ad, hw, hcell⟩
      · cases hnil
      · obtain ⟨F', R'⟩ := R.moveOutOf h1 hu hw hcell hl hset
        exact ⟨_, _, _, h, R', Env.length_put _ _, hc⟩
  | _ => simp [take] at h

/-- what is held is seen under another mark -/
theorem RelX.coe {u : TV} {v : Value} (R : RelX B G F (H ++ [(u, v)]) env ts w) {m : Md} (hc : coeOk u.t u.m m u.x = true) :
    ∃ G' F', (∀ b, G b → G' b) ∧ RelX B G' F' (H ++ [(⟨u.t, m, u.x⟩, v)]) env ts w := by
  have hv : vrel G w u.t u.m u.x v (F (env.length + H.length)) := R.held H.length (u, v) (by simp)
  obtain ⟨f, z, hf, hz, hfz, hrep⟩ := rep_coe _ _ _ _ _ _ hc (R.nd _) hv.1
  have hGz : ∀ b, (G b ∨ blks z b) → ∀ j, j ≠ env.length + H.length → ¬ blks (F j) b := by
    rintro b (hb | ⟨q, hq, rfl⟩) j hj ⟨r, hr, e⟩
    · exact (R.ok j r hr).1 (e ▸ hb)
    · exact R.ap j _ hj r hr q (hz.subset hq) e
  refine ⟨fun b => G b ∨ blks z b, upd F (env.length + H.length) f, fun _ h => .inl h, ?_⟩
  have grow : ∀ {t m x v f}, vrel G w t m x v f → vrel (fun b => G b ∨ blks z b) w t m x v f := fun h =>
    vrel_frame (X := fun _ _ => False) (Same.refl _ w) (fun _ h => .inl h) (fun _ _ h => h.elim) (fun _ _ _ h => h) h
  refine { len := R.len, slot := fun i hi => ?_, held := fun k h hk => ?_, out := fun i hi => ?_, nd := fun i => ?_, ap := fun i j hij => ?_, ok := fun i r hr => ?_,
           g0 := fun b hb => .inl (R.g0 b hb), gl := fun b hb => ?_, turn := R.turn, chain := R.chain, lent := R.lent }
  · rw [upd_other F f (by omega)]
    exact slotRel_G (fun _ h => .inl h) _ _ _ (R.slot i hi)
  · by_cases hkl : k < H.length
    · rw [List.getElem?_append_left hkl] at hk
      rw [upd_other F f (by omega)]
      exact grow (R.held k h (by rw [List.getElem?_append_left hkl]; exact hk))
    · rw [List.getElem?_append_right (by omega)] at hk
      have hk0 : k - H.length = 0 := by
        have := (List.getElem?_eq_some_iff.1 hk).1
        simp at this
        exact this
      rw [hk0] at hk
      simp only [List.getElem?_cons_zero, Option.some.injEq] at hk
      subst hk
      have : k = H.length := by omega
      subst this
      rw [upd_same]
      exact ⟨hrep, hv.2⟩
  · rw [upd_other F f (by simp at hi; omega)]
    exact R.out i (by simpa using hi)
  · unfold upd; split
    · exact (R.nd _).sub hf
    · exact R.nd i
  · unfold upd
    split <;> split
    · omega
    · rename_i h1 h2; exact fun r hr q hq => R.ap _ j (Ne.symm h2) r (hf.subset hr) q hq
    · rename_i h1 h2; exact fun r hr q hq => R.ap i _ h1 r hr q (hf.subset hq)
    · exact R.ap i j hij
  · unfold upd at hr
    split at hr
    · refine ⟨?_, (R.ok _ r (hf.subset hr)).2⟩
      rintro (h | ⟨q, hq, e⟩)
      · exact (R.ok _ r (hf.subset hr)).1 h
      · exact hfz r hr q hq e.symm
    · rename_i hne
      exact ⟨fun h => hGz _ h i hne ⟨r, hr, rfl⟩, (R.ok i r hr).2⟩
  · rcases hb with hb | ⟨q, hq, rfl⟩
    · exact R.gl b hb
    · obtain ⟨_, h2, h3⟩ := R.ok _ q (hz.subset hq)
      exact ⟨h2, .inr (h3.imp id fun ⟨z, hz, e, _⟩ => ⟨z, hz, e⟩)⟩

end
end Go.VL
