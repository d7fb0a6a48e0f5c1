/-
  AM: an abstract interpreter over the model's own code, whose states hold pure data: the definitions.
-/
import Derived.Orders
import Derived.Below
import Derived.Maps.AppendAt
namespace Go.Am

/-- Shapes of values that lie in memory as data. -/
inductive Sh where
  | int (k : IntKind) | bool | str | arr (k : IntKind) (n : Nat) | agg (l : List Sh) | fs (k : IntKind) | fv (s : Sh)

/-- Abstract values. -/
inductive AV where
  | undef
  | bool (b : Bool)
  | int (k : IntKind) (n : Int)
  | str (l : List UInt8)
  | nils
  | nilp
  | nili
  | arr (k : IntKind) (n : Nat) (xs : List Int)
  | agg (cs : List AV)
  | fs (k : IntKind) (xs : List Int)
  | fv (s : Sh) (xs : List AV)
  | own (d : Nat)
  | win (d sz off len : Nat)
  | wina (d o n off len : Nat)
  | ref (d off : Nat)
  | refa (d off n i : Nat)
  | eref (d sz i off : Nat)
  | fp (t : AV)
  | tup (vs : List AV)
  | fn (f : FuncId)

/-- Objects: what the run has made itself. 'own': it may still be written. -/
inductive Ob where
  | dead
  | box (t : AV)
  | row (own : Bool) (e : TypeId) (k : IntKind) (xs : List Int)
  | rows (own : Bool) (e : TypeId) (s : Sh) (xs : List AV)
  | lit (e : TypeId) (s : Sh) (vs : List AV)

structure St where
  tm : List AV
  ob : List (Nat × Ob)

def St.slot (S : St) (i : Nat) : AV := S.tm.getD i .undef
def St.setSlot (S : St) (i : Nat) (v : AV) : St := { S with tm := S.tm.set i v }
def look : List (Nat × Ob) → Nat → Option Ob
  | [], _ => none
  | x :: r, d => match Nat.beq d x.1 with
    | true => some x.2
    | false => look r d
def St.obj (S : St) (d : Nat) : Option Ob := look S.ob d
def St.setObj (S : St) (d : Nat) (o : Ob) : St := { S with ob := (d, o) :: S.ob }

def brO {R : Type} (b : Bool) (x y : Option R) : Option R := match b with | true => x | false => y

/-- What a call of a function means: arguments and results as data. 'F n x': with n rounds. -/
structure Cal : Type 1 where
  β : Type
  α : Type
  F : Nat → β → Option α
  dec : List AV → Option β
  res : α → List AV
  ty : List TypeId
  own : Option Nat
  esc : Bool

inductive Pg : Type 1 where
  | done
  | fail
  | slot (i : Nat) (k : AV → Pg)
  | obj (d : Nat) (k : Option Ob → Pg)
  | setSlot (i : Nat) (v : AV) (k : Pg)
  | setObj (d : Nat) (o : Ob) (k : Pg)
  | chk (b : Bool) (k : Pg)
  | call (c : Cal) (x : c.β) (k : c.α → Pg)

def Pg.run (n : Nat) {R : Type} : Pg → St → (St → Option R) → Option R
  | .done, S, K => K S
  | .fail, _, _ => none
  | .slot i k, S, K => (k (S.slot i)).run n S K
  | .obj d k, S, K => (k (S.obj d)).run n S K
  | .setSlot i v k, S, K => k.run n (S.setSlot i v) K
  | .setObj d o k, S, K => k.run n (S.setObj d o) K
  | .chk b k, S, K => brO b (k.run n S K) none
  | .call c x k, S, K => (c.F n x).bind fun r => (k r).run n S K

end Go.Am
