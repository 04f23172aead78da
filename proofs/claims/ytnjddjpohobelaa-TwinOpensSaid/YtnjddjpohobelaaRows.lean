/-
  No cell of these rows narrows 'for every input' (looked for: loops, veiled, ifaces, maps, wideKeys, modest, calm, conditions, laid).
  DERIVED. THE GIVEN ROWS OF THIS SEAT. 12 by the template 'for every input the law returns true; each argument reads behind the call as it read before'; 0 by the template 'total and deterministic' (their statements: YtnjddjpohobelaaTotals.lean).
  GIVEN WITH THE SEED: the statements are not yours to turn. If you find one false, say at which input.
  Laid BY PROGRAM, IN A SANDBOX (cutbox-rows.mjs): the forced cells as the released guide's own fill.sh prints them over the translation a4807e49f7088947… (all of the seat's roots in one cut). By AI agents, Wed Nov 11 2026. No macro, syntax, notation, axiom, sorry.
-/
import Derived.Test.YtnjddjpohobelaaChecked
import GoSem.Claim
import GoSem.ClaimJoined
import GoSem.ClaimMapViews
import Derived.JoinedTies
import Derived.KernelRfl
namespace Go.Proofs.Ytnjddjpohobelaa
/- THE CELL 'sum', in the pinned program and in every row, IS THE sha256 OF THE DUMP (.gsa) THAT YtnjddjpohobelaaProg.lean LOADS. Nothing in Lean hashes anything: it is a label: what it is worth is what the hold of that sum in a sandbox is worth. -/
noncomputable def Try.pinned : Pinned := { name := "ytnjddjpohobelaa", sum := "a4807e49f7088947368d433ddad99181ab3f156b18a2b7a85ae7a67a4417321d", checked := Try.checked }
namespace Rows
def none {H : Type} : Left H := { results := [], args := [] }

/-- 'substationlaw16.TwinExactlyOnce': WHATEVER THE INPUT: true; the input reads as it did. -/
def twinExactlyOnceSpec : ChangeSpec := { name := "twinExactlyOnce", fn := fun _ => fun
  | [d1, d2, d3] => { results := [.lit (.bool true)], args := [d1, d2, d3] }
  | _ => none }
def twinExactlyOnceRow : OpenClaim := { program := "ytnjddjpohobelaa", sum := "a4807e49f7088947368d433ddad99181ab3f156b18a2b7a85ae7a67a4417321d", func := "substation/substationlaw16.TwinExactlyOnce", spec := "twinExactlyOnce", inPlace := ["slices.overlaps[substation/twin.Source]"], unfollowed := true, recurses := true, apart := false }
def TwinExactlyOnceSaid : Prop := twinExactlyOnceRow.holds Try.pinned (OpenSpec.ofChange twinExactlyOnceSpec)

/-- ITS FALSE NEIGHBOUR: 'it returns false'. Refute it at one input. -/
def twinExactlyOnceWrong : ChangeSpec := { name := "twinExactlyOnce", fn := fun _ => fun
  | [d1, d2, d3] => { results := [.lit (.bool false)], args := [d1, d2, d3] }
  | _ => none }
def TwinExactlyOnceWrongFalsely : Prop := twinExactlyOnceRow.holds Try.pinned (OpenSpec.ofChange twinExactlyOnceWrong)

/-- 'substationlaw16.TwinOneNetwork': WHATEVER THE INPUT: true; the input reads as it did. -/
def twinOneNetworkSpec : ChangeSpec := { name := "twinOneNetwork", fn := fun _ => fun
  | [d1, d2] => { results := [.lit (.bool true)], args := [d1, d2] }
  | _ => none }
def twinOneNetworkRow : OpenClaim := { program := "ytnjddjpohobelaa", sum := "a4807e49f7088947368d433ddad99181ab3f156b18a2b7a85ae7a67a4417321d", func := "substation/substationlaw16.TwinOneNetwork", spec := "twinOneNetwork", inPlace := ["slices.overlaps[substation/twin.Source]"], unfollowed := true, recurses := true, apart := false }
def TwinOneNetworkSaid : Prop := twinOneNetworkRow.holds Try.pinned (OpenSpec.ofChange twinOneNetworkSpec)

/-- ITS FALSE NEIGHBOUR: 'it returns false'. Refute it at one input. -/
def twinOneNetworkWrong : ChangeSpec := { name := "twinOneNetwork", fn := fun _ => fun
  | [d1, d2] => { results := [.lit (.bool false)], args := [d1, d2] }
  | _ => none }
def TwinOneNetworkWrongFalsely : Prop := twinOneNetworkRow.holds Try.pinned (OpenSpec.ofChange twinOneNetworkWrong)

/-- 'substationlaw16.TwinAccepts': WHATEVER THE INPUT: true; the input reads as it did. -/
def twinAcceptsSpec : ChangeSpec := { name := "twinAccepts", fn := fun _ => fun
  | [d] => { results := [.lit (.bool true)], args := [d] }
  | _ => none }
def twinAcceptsRow : OpenClaim := { program := "ytnjddjpohobelaa", sum := "a4807e49f7088947368d433ddad99181ab3f156b18a2b7a85ae7a67a4417321d", func := "substation/substationlaw16.TwinAccepts", spec := "twinAccepts", inPlace := ["slices.overlaps[substation/twin.Source]"], unfollowed := true, recurses := true, apart := false }
def TwinAcceptsSaid : Prop := twinAcceptsRow.holds Try.pinned (OpenSpec.ofChange twinAcceptsSpec)

/-- ITS FALSE NEIGHBOUR: 'it returns false'. Refute it at one input. -/
def twinAcceptsWrong : ChangeSpec := { name := "twinAccepts", fn := fun _ => fun
  | [d] => { results := [.lit (.bool false)], args := [d] }
  | _ => none }
def TwinAcceptsWrongFalsely : Prop := twinAcceptsRow.holds Try.pinned (OpenSpec.ofChange twinAcceptsWrong)

/-- 'substationlaw16.TwinOnce': WHATEVER THE INPUT: true; the input reads as it did. -/
def twinOnceSpec : ChangeSpec := { name := "twinOnce", fn := fun _ => fun
  | [d1, d2] => { results := [.lit (.bool true)], args := [d1, d2] }
  | _ => none }
def twinOnceRow : OpenClaim := { program := "ytnjddjpohobelaa", sum := "a4807e49f7088947368d433ddad99181ab3f156b18a2b7a85ae7a67a4417321d", func := "substation/substationlaw16.TwinOnce", spec := "twinOnce", inPlace := ["slices.overlaps[substation/twin.Source]"], unfollowed := true, recurses := true, apart := false }
def TwinOnceSaid : Prop := twinOnceRow.holds Try.pinned (OpenSpec.ofChange twinOnceSpec)

/-- ITS FALSE NEIGHBOUR: 'it returns false'. Refute it at one input. -/
def twinOnceWrong : ChangeSpec := { name := "twinOnce", fn := fun _ => fun
  | [d1, d2] => { results := [.lit (.bool false)], args := [d1, d2] }
  | _ => none }
def TwinOnceWrongFalsely : Prop := twinOnceRow.holds Try.pinned (OpenSpec.ofChange twinOnceWrong)

/-- 'substationlaw16.TwinSends': WHATEVER THE INPUT: true; the input reads as it did. -/
def twinSendsSpec : ChangeSpec := { name := "twinSends", fn := fun _ => fun
  | [d1, d2, d3] => { results := [.lit (.bool true)], args := [d1, d2, d3] }
  | _ => none }
def twinSendsRow : OpenClaim := { program := "ytnjddjpohobelaa", sum := "a4807e49f7088947368d433ddad99181ab3f156b18a2b7a85ae7a67a4417321d", func := "substation/substationlaw16.TwinSends", spec := "twinSends", inPlace := ["slices.overlaps[substation/twin.Source]"], unfollowed := true, recurses := true, apart := false }
def TwinSendsSaid : Prop := twinSendsRow.holds Try.pinned (OpenSpec.ofChange twinSendsSpec)

/-- ITS FALSE NEIGHBOUR: 'it returns false'. Refute it at one input. -/
def twinSendsWrong : ChangeSpec := { name := "twinSends", fn := fun _ => fun
  | [d1, d2, d3] => { results := [.lit (.bool false)], args := [d1, d2, d3] }
  | _ => none }
def TwinSendsWrongFalsely : Prop := twinSendsRow.holds Try.pinned (OpenSpec.ofChange twinSendsWrong)

/-- 'substationlaw16.TwinOpens': WHATEVER THE INPUT: true; the input reads as it did. -/
def twinOpensSpec : ChangeSpec := { name := "twinOpens", fn := fun _ => fun
  | [d] => { results := [.lit (.bool true)], args := [d] }
  | _ => none }
def twinOpensRow : OpenClaim := { program := "ytnjddjpohobelaa", sum := "a4807e49f7088947368d433ddad99181ab3f156b18a2b7a85ae7a67a4417321d", func := "substation/substationlaw16.TwinOpens", spec := "twinOpens", inPlace := ["slices.overlaps[substation/twin.Source]"], unfollowed := true, recurses := true, apart := false }
def TwinOpensSaid : Prop := twinOpensRow.holds Try.pinned (OpenSpec.ofChange twinOpensSpec)

/-- ITS FALSE NEIGHBOUR: 'it returns false'. Refute it at one input. -/
def twinOpensWrong : ChangeSpec := { name := "twinOpens", fn := fun _ => fun
  | [d] => { results := [.lit (.bool false)], args := [d] }
  | _ => none }
def TwinOpensWrongFalsely : Prop := twinOpensRow.holds Try.pinned (OpenSpec.ofChange twinOpensWrong)

/-- 'substationlaw16.TwinRoundTrip': WHATEVER THE INPUT: true; the input reads as it did. -/
def twinRoundTripSpec : ChangeSpec := { name := "twinRoundTrip", fn := fun _ => fun
  | [d1, d2, d3] => { results := [.lit (.bool true)], args := [d1, d2, d3] }
  | _ => none }
def twinRoundTripRow : OpenClaim := { program := "ytnjddjpohobelaa", sum := "a4807e49f7088947368d433ddad99181ab3f156b18a2b7a85ae7a67a4417321d", func := "substation/substationlaw16.TwinRoundTrip", spec := "twinRoundTrip", inPlace := ["slices.overlaps[substation/twin.Source]"], unfollowed := true, recurses := true, apart := false }
def TwinRoundTripSaid : Prop := twinRoundTripRow.holds Try.pinned (OpenSpec.ofChange twinRoundTripSpec)

/-- ITS FALSE NEIGHBOUR: 'it returns false'. Refute it at one input. -/
def twinRoundTripWrong : ChangeSpec := { name := "twinRoundTrip", fn := fun _ => fun
  | [d1, d2, d3] => { results := [.lit (.bool false)], args := [d1, d2, d3] }
  | _ => none }
def TwinRoundTripWrongFalsely : Prop := twinRoundTripRow.holds Try.pinned (OpenSpec.ofChange twinRoundTripWrong)

/-- 'substationlaw17.RingRuns': WHATEVER THE INPUT: true; the input reads as it did. -/
def ringRunsSpec : ChangeSpec := { name := "ringRuns", fn := fun _ => fun
  | [d1, d2] => { results := [.lit (.bool true)], args := [d1, d2] }
  | _ => none }
def ringRunsRow : OpenClaim := { program := "ytnjddjpohobelaa", sum := "a4807e49f7088947368d433ddad99181ab3f156b18a2b7a85ae7a67a4417321d", func := "substation/substationlaw17.RingRuns", spec := "ringRuns", unfollowed := true, recurses := true, apart := false }
def RingRunsSaid : Prop := ringRunsRow.holds Try.pinned (OpenSpec.ofChange ringRunsSpec)

/-- ITS FALSE NEIGHBOUR: 'it returns false'. Refute it at one input. -/
def ringRunsWrong : ChangeSpec := { name := "ringRuns", fn := fun _ => fun
  | [d1, d2] => { results := [.lit (.bool false)], args := [d1, d2] }
  | _ => none }
def RingRunsWrongFalsely : Prop := ringRunsRow.holds Try.pinned (OpenSpec.ofChange ringRunsWrong)

/-- 'substationlaw17.RingTwice': WHATEVER THE INPUT: true; the input reads as it did. -/
def ringTwiceSpec : ChangeSpec := { name := "ringTwice", fn := fun _ => fun
  | [d1, d2] => { results := [.lit (.bool true)], args := [d1, d2] }
  | _ => none }
def ringTwiceRow : OpenClaim := { program := "ytnjddjpohobelaa", sum := "a4807e49f7088947368d433ddad99181ab3f156b18a2b7a85ae7a67a4417321d", func := "substation/substationlaw17.RingTwice", spec := "ringTwice", unfollowed := true, recurses := true, apart := false }
def RingTwiceSaid : Prop := ringTwiceRow.holds Try.pinned (OpenSpec.ofChange ringTwiceSpec)

/-- ITS FALSE NEIGHBOUR: 'it returns false'. Refute it at one input. -/
def ringTwiceWrong : ChangeSpec := { name := "ringTwice", fn := fun _ => fun
  | [d1, d2] => { results := [.lit (.bool false)], args := [d1, d2] }
  | _ => none }
def RingTwiceWrongFalsely : Prop := ringTwiceRow.holds Try.pinned (OpenSpec.ofChange ringTwiceWrong)

/-- 'substationlaw17.RingSurvives': WHATEVER THE INPUT: true; the input reads as it did. -/
def ringSurvivesSpec : ChangeSpec := { name := "ringSurvives", fn := fun _ => fun
  | [d1, d2, d3] => { results := [.lit (.bool true)], args := [d1, d2, d3] }
  | _ => none }
def ringSurvivesRow : OpenClaim := { program := "ytnjddjpohobelaa", sum := "a4807e49f7088947368d433ddad99181ab3f156b18a2b7a85ae7a67a4417321d", func := "substation/substationlaw17.RingSurvives", spec := "ringSurvives", unfollowed := true, recurses := true, apart := false }
def RingSurvivesSaid : Prop := ringSurvivesRow.holds Try.pinned (OpenSpec.ofChange ringSurvivesSpec)

/-- ITS FALSE NEIGHBOUR: 'it returns false'. Refute it at one input. -/
def ringSurvivesWrong : ChangeSpec := { name := "ringSurvives", fn := fun _ => fun
  | [d1, d2, d3] => { results := [.lit (.bool false)], args := [d1, d2, d3] }
  | _ => none }
def RingSurvivesWrongFalsely : Prop := ringSurvivesRow.holds Try.pinned (OpenSpec.ofChange ringSurvivesWrong)

/-- 'substationlaw17.RingWays': WHATEVER THE INPUT: true; the input reads as it did. -/
def ringWaysSpec : ChangeSpec := { name := "ringWays", fn := fun _ => fun
  | [d1, d2, d3] => { results := [.lit (.bool true)], args := [d1, d2, d3] }
  | _ => none }
def ringWaysRow : OpenClaim := { program := "ytnjddjpohobelaa", sum := "a4807e49f7088947368d433ddad99181ab3f156b18a2b7a85ae7a67a4417321d", func := "substation/substationlaw17.RingWays", spec := "ringWays", unfollowed := true, recurses := true, apart := false }
def RingWaysSaid : Prop := ringWaysRow.holds Try.pinned (OpenSpec.ofChange ringWaysSpec)

/-- ITS FALSE NEIGHBOUR: 'it returns false'. Refute it at one input. -/
def ringWaysWrong : ChangeSpec := { name := "ringWays", fn := fun _ => fun
  | [d1, d2, d3] => { results := [.lit (.bool false)], args := [d1, d2, d3] }
  | _ => none }
def RingWaysWrongFalsely : Prop := ringWaysRow.holds Try.pinned (OpenSpec.ofChange ringWaysWrong)

/-- 'substationlaw17.RingSymmetric': WHATEVER THE INPUT: true; the input reads as it did. -/
def ringSymmetricSpec : ChangeSpec := { name := "ringSymmetric", fn := fun _ => fun
  | [d] => { results := [.lit (.bool true)], args := [d] }
  | _ => none }
def ringSymmetricRow : OpenClaim := { program := "ytnjddjpohobelaa", sum := "a4807e49f7088947368d433ddad99181ab3f156b18a2b7a85ae7a67a4417321d", func := "substation/substationlaw17.RingSymmetric", spec := "ringSymmetric", unfollowed := true, recurses := true, apart := false }
def RingSymmetricSaid : Prop := ringSymmetricRow.holds Try.pinned (OpenSpec.ofChange ringSymmetricSpec)

/-- ITS FALSE NEIGHBOUR: 'it returns false'. Refute it at one input. -/
def ringSymmetricWrong : ChangeSpec := { name := "ringSymmetric", fn := fun _ => fun
  | [d] => { results := [.lit (.bool false)], args := [d] }
  | _ => none }
def RingSymmetricWrongFalsely : Prop := ringSymmetricRow.holds Try.pinned (OpenSpec.ofChange ringSymmetricWrong)

/- THE SECOND FORM. 'bulk': how many values and letters a reading holds, each counted each time it is reached (what is shared counts as often as it is met; a slice's spare places count too). A statement '..UptoSaid' is the law's where the arguments, and the package variables that the reading takes, are together of bulk at most 1048576: NARROWER than '..Said'. Prove '..Said' where nothing that the law and all that it calls make is longer than what came in: it says more and counts as full. Else prove '..UptoSaid'. A law counts once. -/
mutual
def uptoBulk {H : Type} : DataW H → Nat
  | .lit (.string bytes) => bytes.length + 1
  | .lit _ => 1
  | .nil => 1
  | .ptr d => uptoBulk d + 1
  | .slice elems spare => uptoBulkAll elems + uptoBulkAll spare + 1
  | .agg parts => uptoBulkAll parts + 1
  | .iface _ d => uptoBulk d + 1
  | .map entries => uptoBulkEntries entries + 1
  | .held _ => 1
def uptoBulkAll {H : Type} : List (DataW H) → Nat
  | [] => 0
  | d :: r => uptoBulk d + uptoBulkAll r
def uptoBulkEntries {H : Type} : List (Lit × DataW H) → Nat
  | [] => 0
  | x :: r => uptoBulkEntry x + uptoBulkEntries r
def uptoBulkEntry {H : Type} : Lit × DataW H → Nat
  | (.string bytes, d) => bytes.length + uptoBulk d + 1
  | (_, d) => uptoBulk d + 1
 end
def uptoSmall : (H : Type) → List (DataW H) → Bool := fun _ ds => decide (uptoBulkAll ds ≤ 1048576)
def OpenSpec.upto (s : _root_.Go.ChangeSpec) : _root_.Go.OpenSpec := { _root_.Go.OpenSpec.ofChange s with cond := some uptoSmall }

/-- 'substationlaw16.TwinExactlyOnce', WHERE WHAT IT READS IS OF BULK AT MOST 1048576: true; the input reads as it did. -/
def twinExactlyOnceUptoRow : OpenClaim := { program := "ytnjddjpohobelaa", sum := "a4807e49f7088947368d433ddad99181ab3f156b18a2b7a85ae7a67a4417321d", func := "substation/substationlaw16.TwinExactlyOnce", spec := "twinExactlyOnce", inPlace := ["slices.overlaps[substation/twin.Source]"], unfollowed := true, recurses := true, apart := false, narrowed := true }
def TwinExactlyOnceUptoSaid : Prop := twinExactlyOnceUptoRow.holds Try.pinned (OpenSpec.upto twinExactlyOnceSpec)

/-- 'substationlaw16.TwinOneNetwork', WHERE WHAT IT READS IS OF BULK AT MOST 1048576: true; the input reads as it did. -/
def twinOneNetworkUptoRow : OpenClaim := { program := "ytnjddjpohobelaa", sum := "a4807e49f7088947368d433ddad99181ab3f156b18a2b7a85ae7a67a4417321d", func := "substation/substationlaw16.TwinOneNetwork", spec := "twinOneNetwork", inPlace := ["slices.overlaps[substation/twin.Source]"], unfollowed := true, recurses := true, apart := false, narrowed := true }
def TwinOneNetworkUptoSaid : Prop := twinOneNetworkUptoRow.holds Try.pinned (OpenSpec.upto twinOneNetworkSpec)

/-- 'substationlaw16.TwinAccepts', WHERE WHAT IT READS IS OF BULK AT MOST 1048576: true; the input reads as it did. -/
def twinAcceptsUptoRow : OpenClaim := { program := "ytnjddjpohobelaa", sum := "a4807e49f7088947368d433ddad99181ab3f156b18a2b7a85ae7a67a4417321d", func := "substation/substationlaw16.TwinAccepts", spec := "twinAccepts", inPlace := ["slices.overlaps[substation/twin.Source]"], unfollowed := true, recurses := true, apart := false, narrowed := true }
def TwinAcceptsUptoSaid : Prop := twinAcceptsUptoRow.holds Try.pinned (OpenSpec.upto twinAcceptsSpec)

/-- 'substationlaw16.TwinOnce', WHERE WHAT IT READS IS OF BULK AT MOST 1048576: true; the input reads as it did. -/
def twinOnceUptoRow : OpenClaim := { program := "ytnjddjpohobelaa", sum := "a4807e49f7088947368d433ddad99181ab3f156b18a2b7a85ae7a67a4417321d", func := "substation/substationlaw16.TwinOnce", spec := "twinOnce", inPlace := ["slices.overlaps[substation/twin.Source]"], unfollowed := true, recurses := true, apart := false, narrowed := true }
def TwinOnceUptoSaid : Prop := twinOnceUptoRow.holds Try.pinned (OpenSpec.upto twinOnceSpec)

/-- 'substationlaw16.TwinSends', WHERE WHAT IT READS IS OF BULK AT MOST 1048576: true; the input reads as it did. -/
def twinSendsUptoRow : OpenClaim := { program := "ytnjddjpohobelaa", sum := "a4807e49f7088947368d433ddad99181ab3f156b18a2b7a85ae7a67a4417321d", func := "substation/substationlaw16.TwinSends", spec := "twinSends", inPlace := ["slices.overlaps[substation/twin.Source]"], unfollowed := true, recurses := true, apart := false, narrowed := true }
def TwinSendsUptoSaid : Prop := twinSendsUptoRow.holds Try.pinned (OpenSpec.upto twinSendsSpec)

/-- 'substationlaw16.TwinOpens', WHERE WHAT IT READS IS OF BULK AT MOST 1048576: true; the input reads as it did. -/
def twinOpensUptoRow : OpenClaim := { program := "ytnjddjpohobelaa", sum := "a4807e49f7088947368d433ddad99181ab3f156b18a2b7a85ae7a67a4417321d", func := "substation/substationlaw16.TwinOpens", spec := "twinOpens", inPlace := ["slices.overlaps[substation/twin.Source]"], unfollowed := true, recurses := true, apart := false, narrowed := true }
def TwinOpensUptoSaid : Prop := twinOpensUptoRow.holds Try.pinned (OpenSpec.upto twinOpensSpec)

/-- 'substationlaw16.TwinRoundTrip', WHERE WHAT IT READS IS OF BULK AT MOST 1048576: true; the input reads as it did. -/
def twinRoundTripUptoRow : OpenClaim := { program := "ytnjddjpohobelaa", sum := "a4807e49f7088947368d433ddad99181ab3f156b18a2b7a85ae7a67a4417321d", func := "substation/substationlaw16.TwinRoundTrip", spec := "twinRoundTrip", inPlace := ["slices.overlaps[substation/twin.Source]"], unfollowed := true, recurses := true, apart := false, narrowed := true }
def TwinRoundTripUptoSaid : Prop := twinRoundTripUptoRow.holds Try.pinned (OpenSpec.upto twinRoundTripSpec)

/-- 'substationlaw17.RingRuns', WHERE WHAT IT READS IS OF BULK AT MOST 1048576: true; the input reads as it did. -/
def ringRunsUptoRow : OpenClaim := { program := "ytnjddjpohobelaa", sum := "a4807e49f7088947368d433ddad99181ab3f156b18a2b7a85ae7a67a4417321d", func := "substation/substationlaw17.RingRuns", spec := "ringRuns", unfollowed := true, recurses := true, apart := false, narrowed := true }
def RingRunsUptoSaid : Prop := ringRunsUptoRow.holds Try.pinned (OpenSpec.upto ringRunsSpec)

/-- 'substationlaw17.RingTwice', WHERE WHAT IT READS IS OF BULK AT MOST 1048576: true; the input reads as it did. -/
def ringTwiceUptoRow : OpenClaim := { program := "ytnjddjpohobelaa", sum := "a4807e49f7088947368d433ddad99181ab3f156b18a2b7a85ae7a67a4417321d", func := "substation/substationlaw17.RingTwice", spec := "ringTwice", unfollowed := true, recurses := true, apart := false, narrowed := true }
def RingTwiceUptoSaid : Prop := ringTwiceUptoRow.holds Try.pinned (OpenSpec.upto ringTwiceSpec)

/-- 'substationlaw17.RingSurvives', WHERE WHAT IT READS IS OF BULK AT MOST 1048576: true; the input reads as it did. -/
def ringSurvivesUptoRow : OpenClaim := { program := "ytnjddjpohobelaa", sum := "a4807e49f7088947368d433ddad99181ab3f156b18a2b7a85ae7a67a4417321d", func := "substation/substationlaw17.RingSurvives", spec := "ringSurvives", unfollowed := true, recurses := true, apart := false, narrowed := true }
def RingSurvivesUptoSaid : Prop := ringSurvivesUptoRow.holds Try.pinned (OpenSpec.upto ringSurvivesSpec)

/-- 'substationlaw17.RingWays', WHERE WHAT IT READS IS OF BULK AT MOST 1048576: true; the input reads as it did. -/
def ringWaysUptoRow : OpenClaim := { program := "ytnjddjpohobelaa", sum := "a4807e49f7088947368d433ddad99181ab3f156b18a2b7a85ae7a67a4417321d", func := "substation/substationlaw17.RingWays", spec := "ringWays", unfollowed := true, recurses := true, apart := false, narrowed := true }
def RingWaysUptoSaid : Prop := ringWaysUptoRow.holds Try.pinned (OpenSpec.upto ringWaysSpec)

/-- 'substationlaw17.RingSymmetric', WHERE WHAT IT READS IS OF BULK AT MOST 1048576: true; the input reads as it did. -/
def ringSymmetricUptoRow : OpenClaim := { program := "ytnjddjpohobelaa", sum := "a4807e49f7088947368d433ddad99181ab3f156b18a2b7a85ae7a67a4417321d", func := "substation/substationlaw17.RingSymmetric", spec := "ringSymmetric", unfollowed := true, recurses := true, apart := false, narrowed := true }
def RingSymmetricUptoSaid : Prop := ringSymmetricUptoRow.holds Try.pinned (OpenSpec.upto ringSymmetricSpec)

end Rows
end Go.Proofs.Ytnjddjpohobelaa
