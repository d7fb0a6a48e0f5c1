/-
  NARROWER THAN 'FOR EVERY INPUT', by the rows' own cells (each row's printed sentence says how): PacketUnlike: laid · PacketSums: laid · PacketBack: laid · PacketCanon: laid · PacketOpens: laid · PacketTuples: laid · PacketReads: laid · PacketWrites: laid · PacketTurns: laid · PacketPlays: laid.
  DERIVED. THE GIVEN ROWS OF THIS SEAT. 10 by the template 'for every input the law returns true; each argument reads behind the call as it read before'; 0 by the template 'total and deterministic' (their statements: YtlmnjnhmhacgkaaGreatDoorTotals.lean).
  GIVEN WITH THE SEED: the statements are not yours to turn. If you find one false, say at which input.
  Laid BY PROGRAM, IN A SANDBOX (cutbox-rows.mjs): the forced cells as the released guide's own fill.sh prints them over the translation 65e14246c7045a5f… (all of the seat's roots in one cut). By AI agents, Wed Nov 11 2026. No macro, syntax, notation, axiom, sorry.
-/
import Derived.Test.YtlmnjnhmhacgkaaGreatDoorChecked
import GoSem.Claim
import GoSem.ClaimJoined
import GoSem.ClaimMapViews
import Derived.JoinedTies
import Derived.KernelRfl
namespace Go.Proofs.YtlmnjnhmhacgkaaGreatDoor
/- THE CELL 'sum', in the pinned program and in every row, IS THE sha256 OF THE DUMP (.gsa) THAT YtlmnjnhmhacgkaaGreatDoorProg.lean LOADS. Nothing in Lean hashes anything: it is a label: what it is worth is what the hold of that sum in a sandbox is worth. -/
noncomputable def Tryz.pinned : Pinned := { name := "ytlmnjnhmhacgkaagreatdoor", sum := "65e14246c7045a5f72343e0a9c7b51d641e4a18f939d9ff0021f5731cee01d06", checked := Tryz.checked }
namespace Rows
def none {H : Type} : Left H := { results := [], args := [] }

/- WHAT THE LISTED PACKAGE-LEVEL VARIABLES READ AS WHEN THE CALL BEGINS. Each datum BY PROGRAM (the guide's laid-datum.mjs) off the statement by which the dump's own 'gosem.cut.vars' lays the variable. In a bare row this is a premise. The card (YtlmnjnhmhacgkaaGreatDoorCards.lean) ties it to the program's text. -/
def laid_weir_ip4_widths {H : Type} : DataW H := .agg [.lit (.int .i64 4), .lit (.int .i64 4), .lit (.int .i64 8), .lit (.int .i64 16), .lit (.int .i64 16), .lit (.int .i64 1), .lit (.int .i64 1), .lit (.int .i64 1), .lit (.int .i64 13), .lit (.int .i64 8), .lit (.int .i64 8), .lit (.int .i64 16)]
def laid_weir_ip6_known {H : Type} : DataW H := .agg [.agg [.lit (.int .i64 0), .lit (.int .i64 1)], .agg [.lit (.int .i64 43), .lit (.int .i64 2)], .agg [.lit (.int .i64 44), .lit (.int .i64 3)], .agg [.lit (.int .i64 60), .lit (.int .i64 1)]]
def laid_weir_l4_udpWidths {H : Type} : DataW H := .agg [.lit (.int .i64 16), .lit (.int .i64 16), .lit (.int .i64 16), .lit (.int .i64 16)]
def laid_weir_l4_tcpWidths {H : Type} : DataW H := .agg [.lit (.int .i64 16), .lit (.int .i64 16), .lit (.int .i64 32), .lit (.int .i64 32), .lit (.int .i64 4), .lit (.int .i64 4), .lit (.int .i64 8), .lit (.int .i64 16), .lit (.int .i64 16), .lit (.int .i64 16)]
def laid_weir_l4_lengths {H : Type} : DataW H := .agg [.lit (.int .u64 0), .lit (.int .u64 0), .lit (.int .u64 16), .lit (.int .u64 8), .lit (.int .u64 4), .lit (.int .u64 17247241216), .lit (.int .u64 0), .lit (.int .u64 0), .lit (.int .u64 1024)]

/-- 'weirlaw10.PacketUnlike': WHATEVER THE INPUT: true; the input reads as it did. -/
def packetUnlikeSpec : ChangeSpec := { name := "packetUnlike", fn := fun _ => fun
  | [d1, d2] => { results := [.lit (.bool true)], args := [d1, d2] }
  | _ => none }
def packetUnlikeRow : OpenClaim := { program := "ytlmnjnhmhacgkaagreatdoor", sum := "65e14246c7045a5f72343e0a9c7b51d641e4a18f939d9ff0021f5731cee01d06", func := "weir/weirlaw10.PacketUnlike", spec := "packetUnlike", inPlace := ["internal/bytealg.MakeNoZero", "(*sync.WaitGroup).Add", "internal/race.ReleaseMerge", "internal/race.Disable", "internal/race.Enable", "internal/synctest.IsInBubble", "internal/synctest.Associate[sync.WaitGroup]", "sync.fatal", "sync/atomic.OrUint64", "sync/atomic.AddUint64", "internal/race.Read", "sync/atomic.LoadUint64", "sync/atomic.StoreUint64", "internal/synctest.Disassociate[sync.WaitGroup]", "sync.runtime_Semrelease", "(*sync.WaitGroup).Done", "(*sync.WaitGroup).Wait", "internal/race.Acquire", "internal/synctest.IsAssociated[sync.WaitGroup]", "sync/atomic.CompareAndSwapUint64", "internal/race.Write", "sync.runtime_SemacquireWaitGroup"], unfollowed := true, recurses := true, named := ["weir/ip6.known", "weir/l4.lengths", "weir/l4.udpWidths", "weir/l4.tcpWidths", "weir/ip4.widths"], leaving := true, apart := false, laid := [("weir/ip4.widths", laid_weir_ip4_widths), ("weir/ip6.known", laid_weir_ip6_known), ("weir/l4.udpWidths", laid_weir_l4_udpWidths), ("weir/l4.tcpWidths", laid_weir_l4_tcpWidths), ("weir/l4.lengths", laid_weir_l4_lengths)] }
def PacketUnlikeSaid : Prop := packetUnlikeRow.holds Tryz.pinned (OpenSpec.ofChange packetUnlikeSpec)

/-- ITS FALSE NEIGHBOUR: 'it returns false'. Refute it at one input. -/
def packetUnlikeWrong : ChangeSpec := { name := "packetUnlike", fn := fun _ => fun
  | [d1, d2] => { results := [.lit (.bool false)], args := [d1, d2] }
  | _ => none }
def PacketUnlikeWrongFalsely : Prop := packetUnlikeRow.holds Tryz.pinned (OpenSpec.ofChange packetUnlikeWrong)

/-- 'weirlaw10.PacketSums': WHATEVER THE INPUT: true; the input reads as it did. -/
def packetSumsSpec : ChangeSpec := { name := "packetSums", fn := fun _ => fun
  | [d] => { results := [.lit (.bool true)], args := [d] }
  | _ => none }
def packetSumsRow : OpenClaim := { program := "ytlmnjnhmhacgkaagreatdoor", sum := "65e14246c7045a5f72343e0a9c7b51d641e4a18f939d9ff0021f5731cee01d06", func := "weir/weirlaw10.PacketSums", spec := "packetSums", inPlace := ["internal/bytealg.MakeNoZero", "(*sync.WaitGroup).Add", "internal/race.ReleaseMerge", "internal/race.Disable", "internal/race.Enable", "internal/synctest.IsInBubble", "internal/synctest.Associate[sync.WaitGroup]", "sync.fatal", "sync/atomic.OrUint64", "sync/atomic.AddUint64", "internal/race.Read", "sync/atomic.LoadUint64", "sync/atomic.StoreUint64", "internal/synctest.Disassociate[sync.WaitGroup]", "sync.runtime_Semrelease", "(*sync.WaitGroup).Done", "(*sync.WaitGroup).Wait", "internal/race.Acquire", "internal/synctest.IsAssociated[sync.WaitGroup]", "sync/atomic.CompareAndSwapUint64", "internal/race.Write", "sync.runtime_SemacquireWaitGroup"], unfollowed := true, recurses := true, named := ["weir/ip6.known", "weir/l4.lengths", "weir/l4.udpWidths", "weir/l4.tcpWidths", "weir/ip4.widths"], leaving := true, apart := false, laid := [("weir/ip4.widths", laid_weir_ip4_widths), ("weir/ip6.known", laid_weir_ip6_known), ("weir/l4.udpWidths", laid_weir_l4_udpWidths), ("weir/l4.tcpWidths", laid_weir_l4_tcpWidths), ("weir/l4.lengths", laid_weir_l4_lengths)] }
def PacketSumsSaid : Prop := packetSumsRow.holds Tryz.pinned (OpenSpec.ofChange packetSumsSpec)

/-- ITS FALSE NEIGHBOUR: 'it returns false'. Refute it at one input. -/
def packetSumsWrong : ChangeSpec := { name := "packetSums", fn := fun _ => fun
  | [d] => { results := [.lit (.bool false)], args := [d] }
  | _ => none }
def PacketSumsWrongFalsely : Prop := packetSumsRow.holds Tryz.pinned (OpenSpec.ofChange packetSumsWrong)

/-- 'weirlaw10.PacketBack': WHATEVER THE INPUT: true; the input reads as it did. -/
def packetBackSpec : ChangeSpec := { name := "packetBack", fn := fun _ => fun
  | [d] => { results := [.lit (.bool true)], args := [d] }
  | _ => none }
def packetBackRow : OpenClaim := { program := "ytlmnjnhmhacgkaagreatdoor", sum := "65e14246c7045a5f72343e0a9c7b51d641e4a18f939d9ff0021f5731cee01d06", func := "weir/weirlaw10.PacketBack", spec := "packetBack", inPlace := ["internal/bytealg.MakeNoZero", "(*sync.WaitGroup).Add", "internal/race.ReleaseMerge", "internal/race.Disable", "internal/race.Enable", "internal/synctest.IsInBubble", "internal/synctest.Associate[sync.WaitGroup]", "sync.fatal", "sync/atomic.OrUint64", "sync/atomic.AddUint64", "internal/race.Read", "sync/atomic.LoadUint64", "sync/atomic.StoreUint64", "internal/synctest.Disassociate[sync.WaitGroup]", "sync.runtime_Semrelease", "(*sync.WaitGroup).Done", "(*sync.WaitGroup).Wait", "internal/race.Acquire", "internal/synctest.IsAssociated[sync.WaitGroup]", "sync/atomic.CompareAndSwapUint64", "internal/race.Write", "sync.runtime_SemacquireWaitGroup"], unfollowed := true, recurses := true, named := ["weir/ip6.known", "weir/l4.lengths", "weir/l4.udpWidths", "weir/l4.tcpWidths", "weir/ip4.widths"], leaving := true, apart := false, laid := [("weir/ip4.widths", laid_weir_ip4_widths), ("weir/ip6.known", laid_weir_ip6_known), ("weir/l4.udpWidths", laid_weir_l4_udpWidths), ("weir/l4.tcpWidths", laid_weir_l4_tcpWidths), ("weir/l4.lengths", laid_weir_l4_lengths)] }
def PacketBackSaid : Prop := packetBackRow.holds Tryz.pinned (OpenSpec.ofChange packetBackSpec)

/-- ITS FALSE NEIGHBOUR: 'it returns false'. Refute it at one input. -/
def packetBackWrong : ChangeSpec := { name := "packetBack", fn := fun _ => fun
  | [d] => { results := [.lit (.bool false)], args := [d] }
  | _ => none }
def PacketBackWrongFalsely : Prop := packetBackRow.holds Tryz.pinned (OpenSpec.ofChange packetBackWrong)

/-- 'weirlaw10.PacketCanon': WHATEVER THE INPUT: true; the input reads as it did. -/
def packetCanonSpec : ChangeSpec := { name := "packetCanon", fn := fun _ => fun
  | [d] => { results := [.lit (.bool true)], args := [d] }
  | _ => none }
def packetCanonRow : OpenClaim := { program := "ytlmnjnhmhacgkaagreatdoor", sum := "65e14246c7045a5f72343e0a9c7b51d641e4a18f939d9ff0021f5731cee01d06", func := "weir/weirlaw10.PacketCanon", spec := "packetCanon", inPlace := ["internal/bytealg.MakeNoZero", "(*sync.WaitGroup).Add", "internal/race.ReleaseMerge", "internal/race.Disable", "internal/race.Enable", "internal/synctest.IsInBubble", "internal/synctest.Associate[sync.WaitGroup]", "sync.fatal", "sync/atomic.OrUint64", "sync/atomic.AddUint64", "internal/race.Read", "sync/atomic.LoadUint64", "sync/atomic.StoreUint64", "internal/synctest.Disassociate[sync.WaitGroup]", "sync.runtime_Semrelease", "(*sync.WaitGroup).Done", "(*sync.WaitGroup).Wait", "internal/race.Acquire", "internal/synctest.IsAssociated[sync.WaitGroup]", "sync/atomic.CompareAndSwapUint64", "internal/race.Write", "sync.runtime_SemacquireWaitGroup"], unfollowed := true, recurses := true, named := ["weir/ip4.widths", "weir/ip6.known", "weir/l4.udpWidths", "weir/l4.tcpWidths", "weir/l4.lengths"], leaving := true, apart := false, laid := [("weir/ip4.widths", laid_weir_ip4_widths), ("weir/ip6.known", laid_weir_ip6_known), ("weir/l4.udpWidths", laid_weir_l4_udpWidths), ("weir/l4.tcpWidths", laid_weir_l4_tcpWidths), ("weir/l4.lengths", laid_weir_l4_lengths)] }
def PacketCanonSaid : Prop := packetCanonRow.holds Tryz.pinned (OpenSpec.ofChange packetCanonSpec)

/-- ITS FALSE NEIGHBOUR: 'it returns false'. Refute it at one input. -/
def packetCanonWrong : ChangeSpec := { name := "packetCanon", fn := fun _ => fun
  | [d] => { results := [.lit (.bool false)], args := [d] }
  | _ => none }
def PacketCanonWrongFalsely : Prop := packetCanonRow.holds Tryz.pinned (OpenSpec.ofChange packetCanonWrong)

/-- 'weirlaw10.PacketOpens': WHATEVER THE INPUT: true; the input reads as it did. -/
def packetOpensSpec : ChangeSpec := { name := "packetOpens", fn := fun _ => fun
  | [d] => { results := [.lit (.bool true)], args := [d] }
  | _ => none }
def packetOpensRow : OpenClaim := { program := "ytlmnjnhmhacgkaagreatdoor", sum := "65e14246c7045a5f72343e0a9c7b51d641e4a18f939d9ff0021f5731cee01d06", func := "weir/weirlaw10.PacketOpens", spec := "packetOpens", inPlace := ["internal/bytealg.MakeNoZero", "(*sync.WaitGroup).Add", "internal/race.ReleaseMerge", "internal/race.Disable", "internal/race.Enable", "internal/synctest.IsInBubble", "internal/synctest.Associate[sync.WaitGroup]", "sync.fatal", "sync/atomic.OrUint64", "sync/atomic.AddUint64", "internal/race.Read", "sync/atomic.LoadUint64", "sync/atomic.StoreUint64", "internal/synctest.Disassociate[sync.WaitGroup]", "sync.runtime_Semrelease", "(*sync.WaitGroup).Done", "(*sync.WaitGroup).Wait", "internal/race.Acquire", "internal/synctest.IsAssociated[sync.WaitGroup]", "sync/atomic.CompareAndSwapUint64", "internal/race.Write", "sync.runtime_SemacquireWaitGroup"], unfollowed := true, recurses := true, named := ["weir/ip6.known", "weir/l4.lengths", "weir/l4.udpWidths", "weir/l4.tcpWidths", "weir/ip4.widths"], leaving := true, apart := false, laid := [("weir/ip4.widths", laid_weir_ip4_widths), ("weir/ip6.known", laid_weir_ip6_known), ("weir/l4.udpWidths", laid_weir_l4_udpWidths), ("weir/l4.tcpWidths", laid_weir_l4_tcpWidths), ("weir/l4.lengths", laid_weir_l4_lengths)] }
def PacketOpensSaid : Prop := packetOpensRow.holds Tryz.pinned (OpenSpec.ofChange packetOpensSpec)

/-- ITS FALSE NEIGHBOUR: 'it returns false'. Refute it at one input. -/
def packetOpensWrong : ChangeSpec := { name := "packetOpens", fn := fun _ => fun
  | [d] => { results := [.lit (.bool false)], args := [d] }
  | _ => none }
def PacketOpensWrongFalsely : Prop := packetOpensRow.holds Tryz.pinned (OpenSpec.ofChange packetOpensWrong)

/-- 'weirlaw10.PacketTuples': WHATEVER THE INPUT: true; the input reads as it did. -/
def packetTuplesSpec : ChangeSpec := { name := "packetTuples", fn := fun _ => fun
  | [d1, d2] => { results := [.lit (.bool true)], args := [d1, d2] }
  | _ => none }
def packetTuplesRow : OpenClaim := { program := "ytlmnjnhmhacgkaagreatdoor", sum := "65e14246c7045a5f72343e0a9c7b51d641e4a18f939d9ff0021f5731cee01d06", func := "weir/weirlaw10.PacketTuples", spec := "packetTuples", inPlace := ["internal/bytealg.MakeNoZero", "(*sync.WaitGroup).Add", "internal/race.ReleaseMerge", "internal/race.Disable", "internal/race.Enable", "internal/synctest.IsInBubble", "internal/synctest.Associate[sync.WaitGroup]", "sync.fatal", "sync/atomic.OrUint64", "sync/atomic.AddUint64", "internal/race.Read", "sync/atomic.LoadUint64", "sync/atomic.StoreUint64", "internal/synctest.Disassociate[sync.WaitGroup]", "sync.runtime_Semrelease", "(*sync.WaitGroup).Done", "(*sync.WaitGroup).Wait", "internal/race.Acquire", "internal/synctest.IsAssociated[sync.WaitGroup]", "sync/atomic.CompareAndSwapUint64", "internal/race.Write", "sync.runtime_SemacquireWaitGroup"], unfollowed := true, recurses := true, named := ["weir/ip4.widths", "weir/ip6.known", "weir/l4.udpWidths", "weir/l4.tcpWidths", "weir/l4.lengths"], leaving := true, apart := false, laid := [("weir/ip4.widths", laid_weir_ip4_widths), ("weir/ip6.known", laid_weir_ip6_known), ("weir/l4.udpWidths", laid_weir_l4_udpWidths), ("weir/l4.tcpWidths", laid_weir_l4_tcpWidths), ("weir/l4.lengths", laid_weir_l4_lengths)] }
def PacketTuplesSaid : Prop := packetTuplesRow.holds Tryz.pinned (OpenSpec.ofChange packetTuplesSpec)

/-- ITS FALSE NEIGHBOUR: 'it returns false'. Refute it at one input. -/
def packetTuplesWrong : ChangeSpec := { name := "packetTuples", fn := fun _ => fun
  | [d1, d2] => { results := [.lit (.bool false)], args := [d1, d2] }
  | _ => none }
def PacketTuplesWrongFalsely : Prop := packetTuplesRow.holds Tryz.pinned (OpenSpec.ofChange packetTuplesWrong)

/-- 'weirlaw10.PacketReads': WHATEVER THE INPUT: true; the input reads as it did. -/
def packetReadsSpec : ChangeSpec := { name := "packetReads", fn := fun _ => fun
  | [d] => { results := [.lit (.bool true)], args := [d] }
  | _ => none }
def packetReadsRow : OpenClaim := { program := "ytlmnjnhmhacgkaagreatdoor", sum := "65e14246c7045a5f72343e0a9c7b51d641e4a18f939d9ff0021f5731cee01d06", func := "weir/weirlaw10.PacketReads", spec := "packetReads", inPlace := ["internal/bytealg.MakeNoZero", "(*sync.WaitGroup).Add", "internal/race.ReleaseMerge", "internal/race.Disable", "internal/race.Enable", "internal/synctest.IsInBubble", "internal/synctest.Associate[sync.WaitGroup]", "sync.fatal", "sync/atomic.OrUint64", "sync/atomic.AddUint64", "internal/race.Read", "sync/atomic.LoadUint64", "sync/atomic.StoreUint64", "internal/synctest.Disassociate[sync.WaitGroup]", "sync.runtime_Semrelease", "(*sync.WaitGroup).Done", "(*sync.WaitGroup).Wait", "internal/race.Acquire", "internal/synctest.IsAssociated[sync.WaitGroup]", "sync/atomic.CompareAndSwapUint64", "internal/race.Write", "sync.runtime_SemacquireWaitGroup"], unfollowed := true, recurses := true, named := ["weir/ip4.widths", "weir/ip6.known", "weir/l4.udpWidths", "weir/l4.tcpWidths", "weir/l4.lengths"], leaving := true, apart := false, laid := [("weir/ip4.widths", laid_weir_ip4_widths), ("weir/ip6.known", laid_weir_ip6_known), ("weir/l4.udpWidths", laid_weir_l4_udpWidths), ("weir/l4.tcpWidths", laid_weir_l4_tcpWidths), ("weir/l4.lengths", laid_weir_l4_lengths)] }
def PacketReadsSaid : Prop := packetReadsRow.holds Tryz.pinned (OpenSpec.ofChange packetReadsSpec)

/-- ITS FALSE NEIGHBOUR: 'it returns false'. Refute it at one input. -/
def packetReadsWrong : ChangeSpec := { name := "packetReads", fn := fun _ => fun
  | [d] => { results := [.lit (.bool false)], args := [d] }
  | _ => none }
def PacketReadsWrongFalsely : Prop := packetReadsRow.holds Tryz.pinned (OpenSpec.ofChange packetReadsWrong)

/-- 'weirlaw10.PacketWrites': WHATEVER THE INPUT: true; the input reads as it did. -/
def packetWritesSpec : ChangeSpec := { name := "packetWrites", fn := fun _ => fun
  | [d] => { results := [.lit (.bool true)], args := [d] }
  | _ => none }
def packetWritesRow : OpenClaim := { program := "ytlmnjnhmhacgkaagreatdoor", sum := "65e14246c7045a5f72343e0a9c7b51d641e4a18f939d9ff0021f5731cee01d06", func := "weir/weirlaw10.PacketWrites", spec := "packetWrites", inPlace := ["internal/bytealg.MakeNoZero", "(*sync.WaitGroup).Add", "internal/race.ReleaseMerge", "internal/race.Disable", "internal/race.Enable", "internal/synctest.IsInBubble", "internal/synctest.Associate[sync.WaitGroup]", "sync.fatal", "sync/atomic.OrUint64", "sync/atomic.AddUint64", "internal/race.Read", "sync/atomic.LoadUint64", "sync/atomic.StoreUint64", "internal/synctest.Disassociate[sync.WaitGroup]", "sync.runtime_Semrelease", "(*sync.WaitGroup).Done", "(*sync.WaitGroup).Wait", "internal/race.Acquire", "internal/synctest.IsAssociated[sync.WaitGroup]", "sync/atomic.CompareAndSwapUint64", "internal/race.Write", "sync.runtime_SemacquireWaitGroup"], unfollowed := true, recurses := true, named := ["weir/ip4.widths", "weir/ip6.known", "weir/l4.udpWidths", "weir/l4.tcpWidths", "weir/l4.lengths"], leaving := true, apart := false, laid := [("weir/ip4.widths", laid_weir_ip4_widths), ("weir/ip6.known", laid_weir_ip6_known), ("weir/l4.udpWidths", laid_weir_l4_udpWidths), ("weir/l4.tcpWidths", laid_weir_l4_tcpWidths), ("weir/l4.lengths", laid_weir_l4_lengths)] }
def PacketWritesSaid : Prop := packetWritesRow.holds Tryz.pinned (OpenSpec.ofChange packetWritesSpec)

/-- ITS FALSE NEIGHBOUR: 'it returns false'. Refute it at one input. -/
def packetWritesWrong : ChangeSpec := { name := "packetWrites", fn := fun _ => fun
  | [d] => { results := [.lit (.bool false)], args := [d] }
  | _ => none }
def PacketWritesWrongFalsely : Prop := packetWritesRow.holds Tryz.pinned (OpenSpec.ofChange packetWritesWrong)

/-- 'weirlaw10.PacketTurns': WHATEVER THE INPUT: true; the input reads as it did. -/
def packetTurnsSpec : ChangeSpec := { name := "packetTurns", fn := fun _ => fun
  | [d] => { results := [.lit (.bool true)], args := [d] }
  | _ => none }
def packetTurnsRow : OpenClaim := { program := "ytlmnjnhmhacgkaagreatdoor", sum := "65e14246c7045a5f72343e0a9c7b51d641e4a18f939d9ff0021f5731cee01d06", func := "weir/weirlaw10.PacketTurns", spec := "packetTurns", inPlace := ["internal/bytealg.MakeNoZero", "(*sync.WaitGroup).Add", "internal/race.ReleaseMerge", "internal/race.Disable", "internal/race.Enable", "internal/synctest.IsInBubble", "internal/synctest.Associate[sync.WaitGroup]", "sync.fatal", "sync/atomic.OrUint64", "sync/atomic.AddUint64", "internal/race.Read", "sync/atomic.LoadUint64", "sync/atomic.StoreUint64", "internal/synctest.Disassociate[sync.WaitGroup]", "sync.runtime_Semrelease", "(*sync.WaitGroup).Done", "(*sync.WaitGroup).Wait", "internal/race.Acquire", "internal/synctest.IsAssociated[sync.WaitGroup]", "sync/atomic.CompareAndSwapUint64", "internal/race.Write", "sync.runtime_SemacquireWaitGroup"], unfollowed := true, recurses := true, named := ["weir/ip4.widths", "weir/ip6.known", "weir/l4.udpWidths", "weir/l4.tcpWidths", "weir/l4.lengths"], leaving := true, apart := false, laid := [("weir/ip4.widths", laid_weir_ip4_widths), ("weir/ip6.known", laid_weir_ip6_known), ("weir/l4.udpWidths", laid_weir_l4_udpWidths), ("weir/l4.tcpWidths", laid_weir_l4_tcpWidths), ("weir/l4.lengths", laid_weir_l4_lengths)] }
def PacketTurnsSaid : Prop := packetTurnsRow.holds Tryz.pinned (OpenSpec.ofChange packetTurnsSpec)

/-- ITS FALSE NEIGHBOUR: 'it returns false'. Refute it at one input. -/
def packetTurnsWrong : ChangeSpec := { name := "packetTurns", fn := fun _ => fun
  | [d] => { results := [.lit (.bool false)], args := [d] }
  | _ => none }
def PacketTurnsWrongFalsely : Prop := packetTurnsRow.holds Tryz.pinned (OpenSpec.ofChange packetTurnsWrong)

/-- 'weirlaw10.PacketPlays': WHATEVER THE INPUT: true; the input reads as it did. -/
def packetPlaysSpec : ChangeSpec := { name := "packetPlays", fn := fun _ => fun
  | [d] => { results := [.lit (.bool true)], args := [d] }
  | _ => none }
def packetPlaysRow : OpenClaim := { program := "ytlmnjnhmhacgkaagreatdoor", sum := "65e14246c7045a5f72343e0a9c7b51d641e4a18f939d9ff0021f5731cee01d06", func := "weir/weirlaw10.PacketPlays", spec := "packetPlays", inPlace := ["internal/bytealg.MakeNoZero", "(*sync.WaitGroup).Add", "internal/race.ReleaseMerge", "internal/race.Disable", "internal/race.Enable", "internal/synctest.IsInBubble", "internal/synctest.Associate[sync.WaitGroup]", "sync.fatal", "sync/atomic.OrUint64", "sync/atomic.AddUint64", "internal/race.Read", "sync/atomic.LoadUint64", "sync/atomic.StoreUint64", "internal/synctest.Disassociate[sync.WaitGroup]", "sync.runtime_Semrelease", "(*sync.WaitGroup).Done", "(*sync.WaitGroup).Wait", "internal/race.Acquire", "internal/synctest.IsAssociated[sync.WaitGroup]", "sync/atomic.CompareAndSwapUint64", "internal/race.Write", "sync.runtime_SemacquireWaitGroup"], unfollowed := true, recurses := true, named := ["weir/ip4.widths", "weir/ip6.known", "weir/l4.udpWidths", "weir/l4.tcpWidths", "weir/l4.lengths"], leaving := true, apart := false, laid := [("weir/ip4.widths", laid_weir_ip4_widths), ("weir/ip6.known", laid_weir_ip6_known), ("weir/l4.udpWidths", laid_weir_l4_udpWidths), ("weir/l4.tcpWidths", laid_weir_l4_tcpWidths), ("weir/l4.lengths", laid_weir_l4_lengths)] }
def PacketPlaysSaid : Prop := packetPlaysRow.holds Tryz.pinned (OpenSpec.ofChange packetPlaysSpec)

/-- ITS FALSE NEIGHBOUR: 'it returns false'. Refute it at one input. -/
def packetPlaysWrong : ChangeSpec := { name := "packetPlays", fn := fun _ => fun
  | [d] => { results := [.lit (.bool false)], args := [d] }
  | _ => none }
def PacketPlaysWrongFalsely : Prop := packetPlaysRow.holds Tryz.pinned (OpenSpec.ofChange packetPlaysWrong)

/- THE SECOND FORM. 'bulk': how many values and letters a reading holds, each counted each time it is reached (what is shared counts as often as it is met; a slice's spare places count too). A statement '..UptoSaid' is the law's where the arguments, and the package variables that the reading takes, are together of bulk at most 1048576: NARROWER than '..Said'. Prove '..Said' where nothing that the law and all that it calls make is longer than what came in: it says more and counts as full. Else prove '..UptoSaid'. A law counts once. -/
mutual
def uptoBulk {H : Type} : DataW H → Nat
  | .lit (.string bytes) => bytes.length + 1
  | .lit _ => 1
  | .nil => 1
  | .ptr d => uptoBulk d + 1
  | .slice elems spare => uptoBulkAll elems + uptoBulkAll spare + 1
  | .agg parts => uptoBulkAll parts + 1
  | .iface _ d => uptoBulk d + 1
  | .map entries => uptoBulkEntries entries + 1
  | .held _ => 1
def uptoBulkAll {H : Type} : List (DataW H) → Nat
  | [] => 0
  | d :: r => uptoBulk d + uptoBulkAll r
def uptoBulkEntries {H : Type} : List (Lit × DataW H) → Nat
  | [] => 0
  | x :: r => uptoBulkEntry x + uptoBulkEntries r
def uptoBulkEntry {H : Type} : Lit × DataW H → Nat
  | (.string bytes, d) => bytes.length + uptoBulk d + 1
  | (_, d) => uptoBulk d + 1
 end
def uptoSmall : (H : Type) → List (DataW H) → Bool := fun _ ds => decide (uptoBulkAll ds ≤ 1048576)
def OpenSpec.upto (s : _root_.Go.ChangeSpec) : _root_.Go.OpenSpec := { _root_.Go.OpenSpec.ofChange s with cond := some uptoSmall }

/-- 'weirlaw10.PacketUnlike', WHERE WHAT IT READS IS OF BULK AT MOST 1048576: true; the input reads as it did. -/
def packetUnlikeUptoRow : OpenClaim := { program := "ytlmnjnhmhacgkaagreatdoor", sum := "65e14246c7045a5f72343e0a9c7b51d641e4a18f939d9ff0021f5731cee01d06", func := "weir/weirlaw10.PacketUnlike", spec := "packetUnlike", inPlace := ["internal/bytealg.MakeNoZero", "(*sync.WaitGroup).Add", "internal/race.ReleaseMerge", "internal/race.Disable", "internal/race.Enable", "internal/synctest.IsInBubble", "internal/synctest.Associate[sync.WaitGroup]", "sync.fatal", "sync/atomic.OrUint64", "sync/atomic.AddUint64", "internal/race.Read", "sync/atomic.LoadUint64", "sync/atomic.StoreUint64", "internal/synctest.Disassociate[sync.WaitGroup]", "sync.runtime_Semrelease", "(*sync.WaitGroup).Done", "(*sync.WaitGroup).Wait", "internal/race.Acquire", "internal/synctest.IsAssociated[sync.WaitGroup]", "sync/atomic.CompareAndSwapUint64", "internal/race.Write", "sync.runtime_SemacquireWaitGroup"], unfollowed := true, recurses := true, named := ["weir/ip6.known", "weir/l4.lengths", "weir/l4.udpWidths", "weir/l4.tcpWidths", "weir/ip4.widths"], leaving := true, apart := false, laid := [("weir/ip4.widths", laid_weir_ip4_widths), ("weir/ip6.known", laid_weir_ip6_known), ("weir/l4.udpWidths", laid_weir_l4_udpWidths), ("weir/l4.tcpWidths", laid_weir_l4_tcpWidths), ("weir/l4.lengths", laid_weir_l4_lengths)], narrowed := true }
def PacketUnlikeUptoSaid : Prop := packetUnlikeUptoRow.holds Tryz.pinned (OpenSpec.upto packetUnlikeSpec)

/-- 'weirlaw10.PacketSums', WHERE WHAT IT READS IS OF BULK AT MOST 1048576: true; the input reads as it did. -/
def packetSumsUptoRow : OpenClaim := { program := "ytlmnjnhmhacgkaagreatdoor", sum := "65e14246c7045a5f72343e0a9c7b51d641e4a18f939d9ff0021f5731cee01d06", func := "weir/weirlaw10.PacketSums", spec := "packetSums", inPlace := ["internal/bytealg.MakeNoZero", "(*sync.WaitGroup).Add", "internal/race.ReleaseMerge", "internal/race.Disable", "internal/race.Enable", "internal/synctest.IsInBubble", "internal/synctest.Associate[sync.WaitGroup]", "sync.fatal", "sync/atomic.OrUint64", "sync/atomic.AddUint64", "internal/race.Read", "sync/atomic.LoadUint64", "sync/atomic.StoreUint64", "internal/synctest.Disassociate[sync.WaitGroup]", "sync.runtime_Semrelease", "(*sync.WaitGroup).Done", "(*sync.WaitGroup).Wait", "internal/race.Acquire", "internal/synctest.IsAssociated[sync.WaitGroup]", "sync/atomic.CompareAndSwapUint64", "internal/race.Write", "sync.runtime_SemacquireWaitGroup"], unfollowed := true, recurses := true, named := ["weir/ip6.known", "weir/l4.lengths", "weir/l4.udpWidths", "weir/l4.tcpWidths", "weir/ip4.widths"], leaving := true, apart := false, laid := [("weir/ip4.widths", laid_weir_ip4_widths), ("weir/ip6.known", laid_weir_ip6_known), ("weir/l4.udpWidths", laid_weir_l4_udpWidths), ("weir/l4.tcpWidths", laid_weir_l4_tcpWidths), ("weir/l4.lengths", laid_weir_l4_lengths)], narrowed := true }
def PacketSumsUptoSaid : Prop := packetSumsUptoRow.holds Tryz.pinned (OpenSpec.upto packetSumsSpec)

/-- 'weirlaw10.PacketBack', WHERE WHAT IT READS IS OF BULK AT MOST 1048576: true; the input reads as it did. -/
def packetBackUptoRow : OpenClaim := { program := "ytlmnjnhmhacgkaagreatdoor", sum := "65e14246c7045a5f72343e0a9c7b51d641e4a18f939d9ff0021f5731cee01d06", func := "weir/weirlaw10.PacketBack", spec := "packetBack", inPlace := ["internal/bytealg.MakeNoZero", "(*sync.WaitGroup).Add", "internal/race.ReleaseMerge", "internal/race.Disable", "internal/race.Enable", "internal/synctest.IsInBubble", "internal/synctest.Associate[sync.WaitGroup]", "sync.fatal", "sync/atomic.OrUint64", "sync/atomic.AddUint64", "internal/race.Read", "sync/atomic.LoadUint64", "sync/atomic.StoreUint64", "internal/synctest.Disassociate[sync.WaitGroup]", "sync.runtime_Semrelease", "(*sync.WaitGroup).Done", "(*sync.WaitGroup).Wait", "internal/race.Acquire", "internal/synctest.IsAssociated[sync.WaitGroup]", "sync/atomic.CompareAndSwapUint64", "internal/race.Write", "sync.runtime_SemacquireWaitGroup"], unfollowed := true, recurses := true, named := ["weir/ip6.known", "weir/l4.lengths", "weir/l4.udpWidths", "weir/l4.tcpWidths", "weir/ip4.widths"], leaving := true, apart := false, laid := [("weir/ip4.widths", laid_weir_ip4_widths), ("weir/ip6.known", laid_weir_ip6_known), ("weir/l4.udpWidths", laid_weir_l4_udpWidths), ("weir/l4.tcpWidths", laid_weir_l4_tcpWidths), ("weir/l4.lengths", laid_weir_l4_lengths)], narrowed := true }
def PacketBackUptoSaid : Prop := packetBackUptoRow.holds Tryz.pinned (OpenSpec.upto packetBackSpec)

/-- 'weirlaw10.PacketCanon', WHERE WHAT IT READS IS OF BULK AT MOST 1048576: true; the input reads as it did. -/
def packetCanonUptoRow : OpenClaim := { program := "ytlmnjnhmhacgkaagreatdoor", sum := "65e14246c7045a5f72343e0a9c7b51d641e4a18f939d9ff0021f5731cee01d06", func := "weir/weirlaw10.PacketCanon", spec := "packetCanon", inPlace := ["internal/bytealg.MakeNoZero", "(*sync.WaitGroup).Add", "internal/race.ReleaseMerge", "internal/race.Disable", "internal/race.Enable", "internal/synctest.IsInBubble", "internal/synctest.Associate[sync.WaitGroup]", "sync.fatal", "sync/atomic.OrUint64", "sync/atomic.AddUint64", "internal/race.Read", "sync/atomic.LoadUint64", "sync/atomic.StoreUint64", "internal/synctest.Disassociate[sync.WaitGroup]", "sync.runtime_Semrelease", "(*sync.WaitGroup).Done", "(*sync.WaitGroup).Wait", "internal/race.Acquire", "internal/synctest.IsAssociated[sync.WaitGroup]", "sync/atomic.CompareAndSwapUint64", "internal/race.Write", "sync.runtime_SemacquireWaitGroup"], unfollowed := true, recurses := true, named := ["weir/ip4.widths", "weir/ip6.known", "weir/l4.udpWidths", "weir/l4.tcpWidths", "weir/l4.lengths"], leaving := true, apart := false, laid := [("weir/ip4.widths", laid_weir_ip4_widths), ("weir/ip6.known", laid_weir_ip6_known), ("weir/l4.udpWidths", laid_weir_l4_udpWidths), ("weir/l4.tcpWidths", laid_weir_l4_tcpWidths), ("weir/l4.lengths", laid_weir_l4_lengths)], narrowed := true }
def PacketCanonUptoSaid : Prop := packetCanonUptoRow.holds Tryz.pinned (OpenSpec.upto packetCanonSpec)

/-- 'weirlaw10.PacketOpens', WHERE WHAT IT READS IS OF BULK AT MOST 1048576: true; the input reads as it did. -/
def packetOpensUptoRow : OpenClaim := { program := "ytlmnjnhmhacgkaagreatdoor", sum := "65e14246c7045a5f72343e0a9c7b51d641e4a18f939d9ff0021f5731cee01d06", func := "weir/weirlaw10.PacketOpens", spec := "packetOpens", inPlace := ["internal/bytealg.MakeNoZero", "(*sync.WaitGroup).Add", "internal/race.ReleaseMerge", "internal/race.Disable", "internal/race.Enable", "internal/synctest.IsInBubble", "internal/synctest.Associate[sync.WaitGroup]", "sync.fatal", "sync/atomic.OrUint64", "sync/atomic.AddUint64", "internal/race.Read", "sync/atomic.LoadUint64", "sync/atomic.StoreUint64", "internal/synctest.Disassociate[sync.WaitGroup]", "sync.runtime_Semrelease", "(*sync.WaitGroup).Done", "(*sync.WaitGroup).Wait", "internal/race.Acquire", "internal/synctest.IsAssociated[sync.WaitGroup]", "sync/atomic.CompareAndSwapUint64", "internal/race.Write", "sync.runtime_SemacquireWaitGroup"], unfollowed := true, recurses := true, named := ["weir/ip6.known", "weir/l4.lengths", "weir/l4.udpWidths", "weir/l4.tcpWidths", "weir/ip4.widths"], leaving := true, apart := false, laid := [("weir/ip4.widths", laid_weir_ip4_widths), ("weir/ip6.known", laid_weir_ip6_known), ("weir/l4.udpWidths", laid_weir_l4_udpWidths), ("weir/l4.tcpWidths", laid_weir_l4_tcpWidths), ("weir/l4.lengths", laid_weir_l4_lengths)], narrowed := true }
def PacketOpensUptoSaid : Prop := packetOpensUptoRow.holds Tryz.pinned (OpenSpec.upto packetOpensSpec)

/-- 'weirlaw10.PacketTuples', WHERE WHAT IT READS IS OF BULK AT MOST 1048576: true; the input reads as it did. -/
def packetTuplesUptoRow : OpenClaim := { program := "ytlmnjnhmhacgkaagreatdoor", sum := "65e14246c7045a5f72343e0a9c7b51d641e4a18f939d9ff0021f5731cee01d06", func := "weir/weirlaw10.PacketTuples", spec := "packetTuples", inPlace := ["internal/bytealg.MakeNoZero", "(*sync.WaitGroup).Add", "internal/race.ReleaseMerge", "internal/race.Disable", "internal/race.Enable", "internal/synctest.IsInBubble", "internal/synctest.Associate[sync.WaitGroup]", "sync.fatal", "sync/atomic.OrUint64", "sync/atomic.AddUint64", "internal/race.Read", "sync/atomic.LoadUint64", "sync/atomic.StoreUint64", "internal/synctest.Disassociate[sync.WaitGroup]", "sync.runtime_Semrelease", "(*sync.WaitGroup).Done", "(*sync.WaitGroup).Wait", "internal/race.Acquire", "internal/synctest.IsAssociated[sync.WaitGroup]", "sync/atomic.CompareAndSwapUint64", "internal/race.Write", "sync.runtime_SemacquireWaitGroup"], unfollowed := true, recurses := true, named := ["weir/ip4.widths", "weir/ip6.known", "weir/l4.udpWidths", "weir/l4.tcpWidths", "weir/l4.lengths"], leaving := true, apart := false, laid := [("weir/ip4.widths", laid_weir_ip4_widths), ("weir/ip6.known", laid_weir_ip6_known), ("weir/l4.udpWidths", laid_weir_l4_udpWidths), ("weir/l4.tcpWidths", laid_weir_l4_tcpWidths), ("weir/l4.lengths", laid_weir_l4_lengths)], narrowed := true }
def PacketTuplesUptoSaid : Prop := packetTuplesUptoRow.holds Tryz.pinned (OpenSpec.upto packetTuplesSpec)

/-- 'weirlaw10.PacketReads', WHERE WHAT IT READS IS OF BULK AT MOST 1048576: true; the input reads as it did. -/
def packetReadsUptoRow : OpenClaim := { program := "ytlmnjnhmhacgkaagreatdoor", sum := "65e14246c7045a5f72343e0a9c7b51d641e4a18f939d9ff0021f5731cee01d06", func := "weir/weirlaw10.PacketReads", spec := "packetReads", inPlace := ["internal/bytealg.MakeNoZero", "(*sync.WaitGroup).Add", "internal/race.ReleaseMerge", "internal/race.Disable", "internal/race.Enable", "internal/synctest.IsInBubble", "internal/synctest.Associate[sync.WaitGroup]", "sync.fatal", "sync/atomic.OrUint64", "sync/atomic.AddUint64", "internal/race.Read", "sync/atomic.LoadUint64", "sync/atomic.StoreUint64", "internal/synctest.Disassociate[sync.WaitGroup]", "sync.runtime_Semrelease", "(*sync.WaitGroup).Done", "(*sync.WaitGroup).Wait", "internal/race.Acquire", "internal/synctest.IsAssociated[sync.WaitGroup]", "sync/atomic.CompareAndSwapUint64", "internal/race.Write", "sync.runtime_SemacquireWaitGroup"], unfollowed := true, recurses := true, named := ["weir/ip4.widths", "weir/ip6.known", "weir/l4.udpWidths", "weir/l4.tcpWidths", "weir/l4.lengths"], leaving := true, apart := false, laid := [("weir/ip4.widths", laid_weir_ip4_widths), ("weir/ip6.known", laid_weir_ip6_known), ("weir/l4.udpWidths", laid_weir_l4_udpWidths), ("weir/l4.tcpWidths", laid_weir_l4_tcpWidths), ("weir/l4.lengths", laid_weir_l4_lengths)], narrowed := true }
def PacketReadsUptoSaid : Prop := packetReadsUptoRow.holds Tryz.pinned (OpenSpec.upto packetReadsSpec)

/-- 'weirlaw10.PacketWrites', WHERE WHAT IT READS IS OF BULK AT MOST 1048576: true; the input reads as it did. -/
def packetWritesUptoRow : OpenClaim := { program := "ytlmnjnhmhacgkaagreatdoor", sum := "65e14246c7045a5f72343e0a9c7b51d641e4a18f939d9ff0021f5731cee01d06", func := "weir/weirlaw10.PacketWrites", spec := "packetWrites", inPlace := ["internal/bytealg.MakeNoZero", "(*sync.WaitGroup).Add", "internal/race.ReleaseMerge", "internal/race.Disable", "internal/race.Enable", "internal/synctest.IsInBubble", "internal/synctest.Associate[sync.WaitGroup]", "sync.fatal", "sync/atomic.OrUint64", "sync/atomic.AddUint64", "internal/race.Read", "sync/atomic.LoadUint64", "sync/atomic.StoreUint64", "internal/synctest.Disassociate[sync.WaitGroup]", "sync.runtime_Semrelease", "(*sync.WaitGroup).Done", "(*sync.WaitGroup).Wait", "internal/race.Acquire", "internal/synctest.IsAssociated[sync.WaitGroup]", "sync/atomic.CompareAndSwapUint64", "internal/race.Write", "sync.runtime_SemacquireWaitGroup"], unfollowed := true, recurses := true, named := ["weir/ip4.widths", "weir/ip6.known", "weir/l4.udpWidths", "weir/l4.tcpWidths", "weir/l4.lengths"], leaving := true, apart := false, laid := [("weir/ip4.widths", laid_weir_ip4_widths), ("weir/ip6.known", laid_weir_ip6_known), ("weir/l4.udpWidths", laid_weir_l4_udpWidths), ("weir/l4.tcpWidths", laid_weir_l4_tcpWidths), ("weir/l4.lengths", laid_weir_l4_lengths)], narrowed := true }
def PacketWritesUptoSaid : Prop := packetWritesUptoRow.holds Tryz.pinned (OpenSpec.upto packetWritesSpec)

/-- 'weirlaw10.PacketTurns', WHERE WHAT IT READS IS OF BULK AT MOST 1048576: true; the input reads as it did. -/
def packetTurnsUptoRow : OpenClaim := { program := "ytlmnjnhmhacgkaagreatdoor", sum := "65e14246c7045a5f72343e0a9c7b51d641e4a18f939d9ff0021f5731cee01d06", func := "weir/weirlaw10.PacketTurns", spec := "packetTurns", inPlace := ["internal/bytealg.MakeNoZero", "(*sync.WaitGroup).Add", "internal/race.ReleaseMerge", "internal/race.Disable", "internal/race.Enable", "internal/synctest.IsInBubble", "internal/synctest.Associate[sync.WaitGroup]", "sync.fatal", "sync/atomic.OrUint64", "sync/atomic.AddUint64", "internal/race.Read", "sync/atomic.LoadUint64", "sync/atomic.StoreUint64", "internal/synctest.Disassociate[sync.WaitGroup]", "sync.runtime_Semrelease", "(*sync.WaitGroup).Done", "(*sync.WaitGroup).Wait", "internal/race.Acquire", "internal/synctest.IsAssociated[sync.WaitGroup]", "sync/atomic.CompareAndSwapUint64", "internal/race.Write", "sync.runtime_SemacquireWaitGroup"], unfollowed := true, recurses := true, named := ["weir/ip4.widths", "weir/ip6.known", "weir/l4.udpWidths", "weir/l4.tcpWidths", "weir/l4.lengths"], leaving := true, apart := false, laid := [("weir/ip4.widths", laid_weir_ip4_widths), ("weir/ip6.known", laid_weir_ip6_known), ("weir/l4.udpWidths", laid_weir_l4_udpWidths), ("weir/l4.tcpWidths", laid_weir_l4_tcpWidths), ("weir/l4.lengths", laid_weir_l4_lengths)], narrowed := true }
def PacketTurnsUptoSaid : Prop := packetTurnsUptoRow.holds Tryz.pinned (OpenSpec.upto packetTurnsSpec)

/-- 'weirlaw10.PacketPlays', WHERE WHAT IT READS IS OF BULK AT MOST 1048576: true; the input reads as it did. -/
def packetPlaysUptoRow : OpenClaim := { program := "ytlmnjnhmhacgkaagreatdoor", sum := "65e14246c7045a5f72343e0a9c7b51d641e4a18f939d9ff0021f5731cee01d06", func := "weir/weirlaw10.PacketPlays", spec := "packetPlays", inPlace := ["internal/bytealg.MakeNoZero", "(*sync.WaitGroup).Add", "internal/race.ReleaseMerge", "internal/race.Disable", "internal/race.Enable", "internal/synctest.IsInBubble", "internal/synctest.Associate[sync.WaitGroup]", "sync.fatal", "sync/atomic.OrUint64", "sync/atomic.AddUint64", "internal/race.Read", "sync/atomic.LoadUint64", "sync/atomic.StoreUint64", "internal/synctest.Disassociate[sync.WaitGroup]", "sync.runtime_Semrelease", "(*sync.WaitGroup).Done", "(*sync.WaitGroup).Wait", "internal/race.Acquire", "internal/synctest.IsAssociated[sync.WaitGroup]", "sync/atomic.CompareAndSwapUint64", "internal/race.Write", "sync.runtime_SemacquireWaitGroup"], unfollowed := true, recurses := true, named := ["weir/ip4.widths", "weir/ip6.known", "weir/l4.udpWidths", "weir/l4.tcpWidths", "weir/l4.lengths"], leaving := true, apart := false, laid := [("weir/ip4.widths", laid_weir_ip4_widths), ("weir/ip6.known", laid_weir_ip6_known), ("weir/l4.udpWidths", laid_weir_l4_udpWidths), ("weir/l4.tcpWidths", laid_weir_l4_tcpWidths), ("weir/l4.lengths", laid_weir_l4_lengths)], narrowed := true }
def PacketPlaysUptoSaid : Prop := packetPlaysUptoRow.holds Tryz.pinned (OpenSpec.upto packetPlaysSpec)

end Rows
end Go.Proofs.YtlmnjnhmhacgkaaGreatDoor
