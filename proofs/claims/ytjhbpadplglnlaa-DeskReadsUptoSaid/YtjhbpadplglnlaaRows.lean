/-
  No cell of these rows narrows 'for every input' (looked for: loops, veiled, ifaces, maps, wideKeys, modest, calm, conditions, laid).
  DERIVED. THE GIVEN ROWS OF THIS SEAT. 3 by the template 'for every input the law returns true; each argument reads behind the call as it read before'; 0 by the template 'total and deterministic' (their statements: YtjhbpadplglnlaaTotals.lean).
  GIVEN WITH THE SEED: the statements are not yours to turn. If you find one false, say at which input.
  Laid BY PROGRAM, IN A SANDBOX (cutbox-rows.mjs): the forced cells as the released guide's own fill.sh prints them over the translation 68c7a95f011dcd8d… (all of the seat's roots in one cut). By AI agents, Wed Nov 11 2026. No macro, syntax, notation, axiom, sorry.
-/
import Derived.Test.YtjhbpadplglnlaaChecked
import GoSem.Claim
import GoSem.ClaimJoined
import GoSem.ClaimMapViews
import Derived.JoinedTies
import Derived.KernelRfl
namespace Go.Proofs.Ytjhbpadplglnlaa
/- THE CELL 'sum', in the pinned program and in every row, IS THE sha256 OF THE DUMP (.gsa) THAT YtjhbpadplglnlaaProg.lean LOADS. Nothing in Lean hashes anything: it is a label: what it is worth is what the hold of that sum in a sandbox is worth. -/
noncomputable def Try.pinned : Pinned := { name := "ytjhbpadplglnlaa", sum := "68c7a95f011dcd8d41b153ae7319edbaae03a8373eed38aa34c90721a18904c9", checked := Try.checked }
namespace Rows
def none {H : Type} : Left H := { results := [], args := [] }

/-- 'weirlaw20.DeskReads': WHATEVER THE INPUT: true; the input reads as it did. -/
def deskReadsSpec : ChangeSpec := { name := "deskReads", fn := fun _ => fun
  | [d] => { results := [.lit (.bool true)], args := [d] }
  | _ => none }
def deskReadsRow : OpenClaim := { program := "ytjhbpadplglnlaa", sum := "68c7a95f011dcd8d41b153ae7319edbaae03a8373eed38aa34c90721a18904c9", func := "weir/weirlaw20.DeskReads", spec := "deskReads", apart := false }
def DeskReadsSaid : Prop := deskReadsRow.holds Try.pinned (OpenSpec.ofChange deskReadsSpec)

/-- ITS FALSE NEIGHBOUR: 'it returns false'. Refute it at one input. -/
def deskReadsWrong : ChangeSpec := { name := "deskReads", fn := fun _ => fun
  | [d] => { results := [.lit (.bool false)], args := [d] }
  | _ => none }
def DeskReadsWrongFalsely : Prop := deskReadsRow.holds Try.pinned (OpenSpec.ofChange deskReadsWrong)

/-- 'weirlaw20.DeskWrites': WHATEVER THE INPUT: true; the input reads as it did. -/
def deskWritesSpec : ChangeSpec := { name := "deskWrites", fn := fun _ => fun
  | [d] => { results := [.lit (.bool true)], args := [d] }
  | _ => none }
def deskWritesRow : OpenClaim := { program := "ytjhbpadplglnlaa", sum := "68c7a95f011dcd8d41b153ae7319edbaae03a8373eed38aa34c90721a18904c9", func := "weir/weirlaw20.DeskWrites", spec := "deskWrites", apart := false }
def DeskWritesSaid : Prop := deskWritesRow.holds Try.pinned (OpenSpec.ofChange deskWritesSpec)

/-- ITS FALSE NEIGHBOUR: 'it returns false'. Refute it at one input. -/
def deskWritesWrong : ChangeSpec := { name := "deskWrites", fn := fun _ => fun
  | [d] => { results := [.lit (.bool false)], args := [d] }
  | _ => none }
def DeskWritesWrongFalsely : Prop := deskWritesRow.holds Try.pinned (OpenSpec.ofChange deskWritesWrong)

/-- 'weirlaw20.DeskCaptures': WHATEVER THE INPUT: true; the input reads as it did. -/
def deskCapturesSpec : ChangeSpec := { name := "deskCaptures", fn := fun _ => fun
  | [d1, d2, d3] => { results := [.lit (.bool true)], args := [d1, d2, d3] }
  | _ => none }
def deskCapturesRow : OpenClaim := { program := "ytjhbpadplglnlaa", sum := "68c7a95f011dcd8d41b153ae7319edbaae03a8373eed38aa34c90721a18904c9", func := "weir/weirlaw20.DeskCaptures", spec := "deskCaptures", apart := false }
def DeskCapturesSaid : Prop := deskCapturesRow.holds Try.pinned (OpenSpec.ofChange deskCapturesSpec)

/-- ITS FALSE NEIGHBOUR: 'it returns false'. Refute it at one input. -/
def deskCapturesWrong : ChangeSpec := { name := "deskCaptures", fn := fun _ => fun
  | [d1, d2, d3] => { results := [.lit (.bool false)], args := [d1, d2, d3] }
  | _ => none }
def DeskCapturesWrongFalsely : Prop := deskCapturesRow.holds Try.pinned (OpenSpec.ofChange deskCapturesWrong)

/- THE SECOND FORM. 'bulk': how many values and letters a reading holds, each counted each time it is reached (what is shared counts as often as it is met; a slice's spare places count too). A statement '..UptoSaid' is the law's where the arguments, and the package variables that the reading takes, are together of bulk at most 1048576: NARROWER than '..Said'. Prove '..Said' where nothing that the law and all that it calls make is longer than what came in: it says more and counts as full. Else prove '..UptoSaid'. A law counts once. -/
mutual
def uptoBulk {H : Type} : DataW H → Nat
  | .lit (.string bytes) => bytes.length + 1
  | .lit _ => 1
  | .nil => 1
  | .ptr d => uptoBulk d + 1
  | .slice elems spare => uptoBulkAll elems + uptoBulkAll spare + 1
  | .agg parts => uptoBulkAll parts + 1
  | .iface _ d => uptoBulk d + 1
  | .map entries => uptoBulkEntries entries + 1
  | .held _ => 1
def uptoBulkAll {H : Type} : List (DataW H) → Nat
  | [] => 0
  | d :: r => uptoBulk d + uptoBulkAll r
def uptoBulkEntries {H : Type} : List (Lit × DataW H) → Nat
  | [] => 0
  | x :: r => uptoBulkEntry x + uptoBulkEntries r
def uptoBulkEntry {H : Type} : Lit × DataW H → Nat
  | (.string bytes, d) => bytes.length + uptoBulk d + 1
  | (_, d) => uptoBulk d + 1
 end
def uptoSmall : (H : Type) → List (DataW H) → Bool := fun _ ds => decide (uptoBulkAll ds ≤ 1048576)
def OpenSpec.upto (s : _root_.Go.ChangeSpec) : _root_.Go.OpenSpec := { _root_.Go.OpenSpec.ofChange s with cond := some uptoSmall }

/-- 'weirlaw20.DeskReads', WHERE WHAT IT READS IS OF BULK AT MOST 1048576: true; the input reads as it did. -/
def deskReadsUptoRow : OpenClaim := { program := "ytjhbpadplglnlaa", sum := "68c7a95f011dcd8d41b153ae7319edbaae03a8373eed38aa34c90721a18904c9", func := "weir/weirlaw20.DeskReads", spec := "deskReads", apart := false, narrowed := true }
def DeskReadsUptoSaid : Prop := deskReadsUptoRow.holds Try.pinned (OpenSpec.upto deskReadsSpec)

/-- 'weirlaw20.DeskWrites', WHERE WHAT IT READS IS OF BULK AT MOST 1048576: true; the input reads as it did. -/
def deskWritesUptoRow : OpenClaim := { program := "ytjhbpadplglnlaa", sum := "68c7a95f011dcd8d41b153ae7319edbaae03a8373eed38aa34c90721a18904c9", func := "weir/weirlaw20.DeskWrites", spec := "deskWrites", apart := false, narrowed := true }
def DeskWritesUptoSaid : Prop := deskWritesUptoRow.holds Try.pinned (OpenSpec.upto deskWritesSpec)

/-- 'weirlaw20.DeskCaptures', WHERE WHAT IT READS IS OF BULK AT MOST 1048576: true; the input reads as it did. -/
def deskCapturesUptoRow : OpenClaim := { program := "ytjhbpadplglnlaa", sum := "68c7a95f011dcd8d41b153ae7319edbaae03a8373eed38aa34c90721a18904c9", func := "weir/weirlaw20.DeskCaptures", spec := "deskCaptures", apart := false, narrowed := true }
def DeskCapturesUptoSaid : Prop := deskCapturesUptoRow.holds Try.pinned (OpenSpec.upto deskCapturesSpec)

end Rows
end Go.Proofs.Ytjhbpadplglnlaa
