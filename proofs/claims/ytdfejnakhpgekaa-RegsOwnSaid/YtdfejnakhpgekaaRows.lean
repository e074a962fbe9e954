/-
  No cell of these rows narrows 'for every input' (looked for: loops, veiled, ifaces, maps, wideKeys, modest, calm, conditions, laid).
  DERIVED. THE GIVEN ROWS OF THIS SEAT. 12 by the template 'for every input the law returns true; each argument reads behind the call as it read before'; 0 by the template 'total and deterministic' (their statements: YtdfejnakhpgekaaTotals.lean).
  GIVEN WITH THE SEED: the statements are not yours to turn. If you find one false, say at which input.
  Laid BY PROGRAM, IN A SANDBOX (cutbox-rows.mjs): the forced cells as the released guide's own fill.sh prints them over the translation 82fff0f7cf7dff69… (all of the seat's roots in one cut). By AI agents, Wed Nov 11 2026. No macro, syntax, notation, axiom, sorry.
-/
import Derived.Test.YtdfejnakhpgekaaChecked
import GoSem.Claim
import GoSem.ClaimJoined
import GoSem.ClaimMapViews
import Derived.JoinedTies
import Derived.KernelRfl
namespace Go.Proofs.Ytdfejnakhpgekaa
/- THE CELL 'sum', in the pinned program and in every row, IS THE sha256 OF THE DUMP (.gsa) THAT YtdfejnakhpgekaaProg.lean LOADS. Nothing in Lean hashes anything: it is a label: what it is worth is what the hold of that sum in a sandbox is worth. -/
noncomputable def Try.pinned : Pinned := { name := "ytdfejnakhpgekaa", sum := "82fff0f7cf7dff69efdf942a543f418df26ad5e421b0aaa8882c963d5be9802c", checked := Try.checked }
namespace Rows
def none {H : Type} : Left H := { results := [], args := [] }

/-- 'lookasidelaw07.RegsBits': WHATEVER THE INPUT: true; the input reads as it did. -/
def regsBitsSpec : ChangeSpec := { name := "regsBits", fn := fun _ => fun
  | [d1, d2] => { results := [.lit (.bool true)], args := [d1, d2] }
  | _ => none }
def regsBitsRow : OpenClaim := { program := "ytdfejnakhpgekaa", sum := "82fff0f7cf7dff69efdf942a543f418df26ad5e421b0aaa8882c963d5be9802c", func := "lookaside/lookasidelaw07.RegsBits", spec := "regsBits", plainKeys := false, apart := false }
def RegsBitsSaid : Prop := regsBitsRow.holds Try.pinned (OpenSpec.ofChange regsBitsSpec)

/-- ITS FALSE NEIGHBOUR: 'it returns false'. Refute it at one input. -/
def regsBitsWrong : ChangeSpec := { name := "regsBits", fn := fun _ => fun
  | [d1, d2] => { results := [.lit (.bool false)], args := [d1, d2] }
  | _ => none }
def RegsBitsWrongFalsely : Prop := regsBitsRow.holds Try.pinned (OpenSpec.ofChange regsBitsWrong)

/-- 'lookasidelaw07.RegsTwice': WHATEVER THE INPUT: true; the input reads as it did. -/
def regsTwiceSpec : ChangeSpec := { name := "regsTwice", fn := fun _ => fun
  | [d1, d2, d3, d4, d5] => { results := [.lit (.bool true)], args := [d1, d2, d3, d4, d5] }
  | _ => none }
def regsTwiceRow : OpenClaim := { program := "ytdfejnakhpgekaa", sum := "82fff0f7cf7dff69efdf942a543f418df26ad5e421b0aaa8882c963d5be9802c", func := "lookaside/lookasidelaw07.RegsTwice", spec := "regsTwice", plainKeys := false, apart := false }
def RegsTwiceSaid : Prop := regsTwiceRow.holds Try.pinned (OpenSpec.ofChange regsTwiceSpec)

/-- ITS FALSE NEIGHBOUR: 'it returns false'. Refute it at one input. -/
def regsTwiceWrong : ChangeSpec := { name := "regsTwice", fn := fun _ => fun
  | [d1, d2, d3, d4, d5] => { results := [.lit (.bool false)], args := [d1, d2, d3, d4, d5] }
  | _ => none }
def RegsTwiceWrongFalsely : Prop := regsTwiceRow.holds Try.pinned (OpenSpec.ofChange regsTwiceWrong)

/-- 'lookasidelaw07.RegsOwn': WHATEVER THE INPUT: true; the input reads as it did. -/
def regsOwnSpec : ChangeSpec := { name := "regsOwn", fn := fun _ => fun
  | [d1, d2, d3, d4] => { results := [.lit (.bool true)], args := [d1, d2, d3, d4] }
  | _ => none }
def regsOwnRow : OpenClaim := { program := "ytdfejnakhpgekaa", sum := "82fff0f7cf7dff69efdf942a543f418df26ad5e421b0aaa8882c963d5be9802c", func := "lookaside/lookasidelaw07.RegsOwn", spec := "regsOwn", plainKeys := false, apart := false }
def RegsOwnSaid : Prop := regsOwnRow.holds Try.pinned (OpenSpec.ofChange regsOwnSpec)

/-- ITS FALSE NEIGHBOUR: 'it returns false'. Refute it at one input. -/
def regsOwnWrong : ChangeSpec := { name := "regsOwn", fn := fun _ => fun
  | [d1, d2, d3, d4] => { results := [.lit (.bool false)], args := [d1, d2, d3, d4] }
  | _ => none }
def RegsOwnWrongFalsely : Prop := regsOwnRow.holds Try.pinned (OpenSpec.ofChange regsOwnWrong)

/-- 'lookasidelaw07.RegsMisses': WHATEVER THE INPUT: true; the input reads as it did. -/
def regsMissesSpec : ChangeSpec := { name := "regsMisses", fn := fun _ => fun
  | [d1, d2, d3, d4] => { results := [.lit (.bool true)], args := [d1, d2, d3, d4] }
  | _ => none }
def regsMissesRow : OpenClaim := { program := "ytdfejnakhpgekaa", sum := "82fff0f7cf7dff69efdf942a543f418df26ad5e421b0aaa8882c963d5be9802c", func := "lookaside/lookasidelaw07.RegsMisses", spec := "regsMisses", plainKeys := false, apart := false }
def RegsMissesSaid : Prop := regsMissesRow.holds Try.pinned (OpenSpec.ofChange regsMissesSpec)

/-- ITS FALSE NEIGHBOUR: 'it returns false'. Refute it at one input. -/
def regsMissesWrong : ChangeSpec := { name := "regsMisses", fn := fun _ => fun
  | [d1, d2, d3, d4] => { results := [.lit (.bool false)], args := [d1, d2, d3, d4] }
  | _ => none }
def RegsMissesWrongFalsely : Prop := regsMissesRow.holds Try.pinned (OpenSpec.ofChange regsMissesWrong)

/-- 'lookasidelaw07.RegsPlays': WHATEVER THE INPUT: true; the input reads as it did. -/
def regsPlaysSpec : ChangeSpec := { name := "regsPlays", fn := fun _ => fun
  | [d] => { results := [.lit (.bool true)], args := [d] }
  | _ => none }
def regsPlaysRow : OpenClaim := { program := "ytdfejnakhpgekaa", sum := "82fff0f7cf7dff69efdf942a543f418df26ad5e421b0aaa8882c963d5be9802c", func := "lookaside/lookasidelaw07.RegsPlays", spec := "regsPlays", plainKeys := false, apart := false }
def RegsPlaysSaid : Prop := regsPlaysRow.holds Try.pinned (OpenSpec.ofChange regsPlaysSpec)

/-- ITS FALSE NEIGHBOUR: 'it returns false'. Refute it at one input. -/
def regsPlaysWrong : ChangeSpec := { name := "regsPlays", fn := fun _ => fun
  | [d] => { results := [.lit (.bool false)], args := [d] }
  | _ => none }
def RegsPlaysWrongFalsely : Prop := regsPlaysRow.holds Try.pinned (OpenSpec.ofChange regsPlaysWrong)

/-- 'lookasidelaw06.TlbFinds': WHATEVER THE INPUT: true; the input reads as it did. -/
def tlbFindsSpec : ChangeSpec := { name := "tlbFinds", fn := fun _ => fun
  | [d1, d2, d3, d4] => { results := [.lit (.bool true)], args := [d1, d2, d3, d4] }
  | _ => none }
def tlbFindsRow : OpenClaim := { program := "ytdfejnakhpgekaa", sum := "82fff0f7cf7dff69efdf942a543f418df26ad5e421b0aaa8882c963d5be9802c", func := "lookaside/lookasidelaw06.TlbFinds", spec := "tlbFinds", unfollowed := true, recurses := true, plainKeys := false, apart := false }
def TlbFindsSaid : Prop := tlbFindsRow.holds Try.pinned (OpenSpec.ofChange tlbFindsSpec)

/-- ITS FALSE NEIGHBOUR: 'it returns false'. Refute it at one input. -/
def tlbFindsWrong : ChangeSpec := { name := "tlbFinds", fn := fun _ => fun
  | [d1, d2, d3, d4] => { results := [.lit (.bool false)], args := [d1, d2, d3, d4] }
  | _ => none }
def TlbFindsWrongFalsely : Prop := tlbFindsRow.holds Try.pinned (OpenSpec.ofChange tlbFindsWrong)

/-- 'lookasidelaw06.TlbLocks': WHATEVER THE INPUT: true; the input reads as it did. -/
def tlbLocksSpec : ChangeSpec := { name := "tlbLocks", fn := fun _ => fun
  | [d1, d2, d3, d4] => { results := [.lit (.bool true)], args := [d1, d2, d3, d4] }
  | _ => none }
def tlbLocksRow : OpenClaim := { program := "ytdfejnakhpgekaa", sum := "82fff0f7cf7dff69efdf942a543f418df26ad5e421b0aaa8882c963d5be9802c", func := "lookaside/lookasidelaw06.TlbLocks", spec := "tlbLocks", unfollowed := true, recurses := true, plainKeys := false, apart := false }
def TlbLocksSaid : Prop := tlbLocksRow.holds Try.pinned (OpenSpec.ofChange tlbLocksSpec)

/-- ITS FALSE NEIGHBOUR: 'it returns false'. Refute it at one input. -/
def tlbLocksWrong : ChangeSpec := { name := "tlbLocks", fn := fun _ => fun
  | [d1, d2, d3, d4] => { results := [.lit (.bool false)], args := [d1, d2, d3, d4] }
  | _ => none }
def TlbLocksWrongFalsely : Prop := tlbLocksRow.holds Try.pinned (OpenSpec.ofChange tlbLocksWrong)

/-- 'lookasidelaw06.TlbClears': WHATEVER THE INPUT: true; the input reads as it did. -/
def tlbClearsSpec : ChangeSpec := { name := "tlbClears", fn := fun _ => fun
  | [d1, d2, d3] => { results := [.lit (.bool true)], args := [d1, d2, d3] }
  | _ => none }
def tlbClearsRow : OpenClaim := { program := "ytdfejnakhpgekaa", sum := "82fff0f7cf7dff69efdf942a543f418df26ad5e421b0aaa8882c963d5be9802c", func := "lookaside/lookasidelaw06.TlbClears", spec := "tlbClears", unfollowed := true, recurses := true, plainKeys := false, apart := false }
def TlbClearsSaid : Prop := tlbClearsRow.holds Try.pinned (OpenSpec.ofChange tlbClearsSpec)

/-- ITS FALSE NEIGHBOUR: 'it returns false'. Refute it at one input. -/
def tlbClearsWrong : ChangeSpec := { name := "tlbClears", fn := fun _ => fun
  | [d1, d2, d3] => { results := [.lit (.bool false)], args := [d1, d2, d3] }
  | _ => none }
def TlbClearsWrongFalsely : Prop := tlbClearsRow.holds Try.pinned (OpenSpec.ofChange tlbClearsWrong)

/-- 'lookasidelaw06.TlbOnce': WHATEVER THE INPUT: true; the input reads as it did. -/
def tlbOnceSpec : ChangeSpec := { name := "tlbOnce", fn := fun _ => fun
  | [d1, d2, d3, d4] => { results := [.lit (.bool true)], args := [d1, d2, d3, d4] }
  | _ => none }
def tlbOnceRow : OpenClaim := { program := "ytdfejnakhpgekaa", sum := "82fff0f7cf7dff69efdf942a543f418df26ad5e421b0aaa8882c963d5be9802c", func := "lookaside/lookasidelaw06.TlbOnce", spec := "tlbOnce", unfollowed := true, recurses := true, plainKeys := false, apart := false }
def TlbOnceSaid : Prop := tlbOnceRow.holds Try.pinned (OpenSpec.ofChange tlbOnceSpec)

/-- ITS FALSE NEIGHBOUR: 'it returns false'. Refute it at one input. -/
def tlbOnceWrong : ChangeSpec := { name := "tlbOnce", fn := fun _ => fun
  | [d1, d2, d3, d4] => { results := [.lit (.bool false)], args := [d1, d2, d3, d4] }
  | _ => none }
def TlbOnceWrongFalsely : Prop := tlbOnceRow.holds Try.pinned (OpenSpec.ofChange tlbOnceWrong)

/-- 'lookasidelaw06.TlbDemaps': WHATEVER THE INPUT: true; the input reads as it did. -/
def tlbDemapsSpec : ChangeSpec := { name := "tlbDemaps", fn := fun _ => fun
  | [d1, d2, d3, d4] => { results := [.lit (.bool true)], args := [d1, d2, d3, d4] }
  | _ => none }
def tlbDemapsRow : OpenClaim := { program := "ytdfejnakhpgekaa", sum := "82fff0f7cf7dff69efdf942a543f418df26ad5e421b0aaa8882c963d5be9802c", func := "lookaside/lookasidelaw06.TlbDemaps", spec := "tlbDemaps", unfollowed := true, recurses := true, plainKeys := false, apart := false }
def TlbDemapsSaid : Prop := tlbDemapsRow.holds Try.pinned (OpenSpec.ofChange tlbDemapsSpec)

/-- ITS FALSE NEIGHBOUR: 'it returns false'. Refute it at one input. -/
def tlbDemapsWrong : ChangeSpec := { name := "tlbDemaps", fn := fun _ => fun
  | [d1, d2, d3, d4] => { results := [.lit (.bool false)], args := [d1, d2, d3, d4] }
  | _ => none }
def TlbDemapsWrongFalsely : Prop := tlbDemapsRow.holds Try.pinned (OpenSpec.ofChange tlbDemapsWrong)

/-- 'lookasidelaw06.TlbPlays': WHATEVER THE INPUT: true; the input reads as it did. -/
def tlbPlaysSpec : ChangeSpec := { name := "tlbPlays", fn := fun _ => fun
  | [d1, d2] => { results := [.lit (.bool true)], args := [d1, d2] }
  | _ => none }
def tlbPlaysRow : OpenClaim := { program := "ytdfejnakhpgekaa", sum := "82fff0f7cf7dff69efdf942a543f418df26ad5e421b0aaa8882c963d5be9802c", func := "lookaside/lookasidelaw06.TlbPlays", spec := "tlbPlays", unfollowed := true, recurses := true, plainKeys := false, apart := false }
def TlbPlaysSaid : Prop := tlbPlaysRow.holds Try.pinned (OpenSpec.ofChange tlbPlaysSpec)

/-- ITS FALSE NEIGHBOUR: 'it returns false'. Refute it at one input. -/
def tlbPlaysWrong : ChangeSpec := { name := "tlbPlays", fn := fun _ => fun
  | [d1, d2] => { results := [.lit (.bool false)], args := [d1, d2] }
  | _ => none }
def TlbPlaysWrongFalsely : Prop := tlbPlaysRow.holds Try.pinned (OpenSpec.ofChange tlbPlaysWrong)

/-- 'lookasidelaw13.SwapFrames': WHATEVER THE INPUT: true; the input reads as it did. -/
def swapFramesSpec : ChangeSpec := { name := "swapFrames", fn := fun _ => fun
  | [d1, d2] => { results := [.lit (.bool true)], args := [d1, d2] }
  | _ => none }
def swapFramesRow : OpenClaim := { program := "ytdfejnakhpgekaa", sum := "82fff0f7cf7dff69efdf942a543f418df26ad5e421b0aaa8882c963d5be9802c", func := "lookaside/lookasidelaw13.SwapFrames", spec := "swapFrames", unfollowed := true, recurses := true, plainKeys := false, apart := false }
def SwapFramesSaid : Prop := swapFramesRow.holds Try.pinned (OpenSpec.ofChange swapFramesSpec)

/-- ITS FALSE NEIGHBOUR: 'it returns false'. Refute it at one input. -/
def swapFramesWrong : ChangeSpec := { name := "swapFrames", fn := fun _ => fun
  | [d1, d2] => { results := [.lit (.bool false)], args := [d1, d2] }
  | _ => none }
def SwapFramesWrongFalsely : Prop := swapFramesRow.holds Try.pinned (OpenSpec.ofChange swapFramesWrong)

/- THE SECOND FORM. 'bulk': how many values and letters a reading holds, each counted each time it is reached (what is shared counts as often as it is met; a slice's spare places count too). A statement '..UptoSaid' is the law's where the arguments, and the package variables that the reading takes, are together of bulk at most 1048576: NARROWER than '..Said'. Prove '..Said' where nothing that the law and all that it calls make is longer than what came in: it says more and counts as full. Else prove '..UptoSaid'. A law counts once. -/
mutual
def uptoBulk {H : Type} : DataW H → Nat
  | .lit (.string bytes) => bytes.length + 1
  | .lit _ => 1
  | .nil => 1
  | .ptr d => uptoBulk d + 1
  | .slice elems spare => uptoBulkAll elems + uptoBulkAll spare + 1
  | .agg parts => uptoBulkAll parts + 1
  | .iface _ d => uptoBulk d + 1
  | .map entries => uptoBulkEntries entries + 1
  | .held _ => 1
def uptoBulkAll {H : Type} : List (DataW H) → Nat
  | [] => 0
  | d :: r => uptoBulk d + uptoBulkAll r
def uptoBulkEntries {H : Type} : List (Lit × DataW H) → Nat
  | [] => 0
  | x :: r => uptoBulkEntry x + uptoBulkEntries r
def uptoBulkEntry {H : Type} : Lit × DataW H → Nat
  | (.string bytes, d) => bytes.length + uptoBulk d + 1
  | (_, d) => uptoBulk d + 1
 end
def uptoSmall : (H : Type) → List (DataW H) → Bool := fun _ ds => decide (uptoBulkAll ds ≤ 1048576)
def OpenSpec.upto (s : _root_.Go.ChangeSpec) : _root_.Go.OpenSpec := { _root_.Go.OpenSpec.ofChange s with cond := some uptoSmall }

/-- 'lookasidelaw07.RegsBits', WHERE WHAT IT READS IS OF BULK AT MOST 1048576: true; the input reads as it did. -/
def regsBitsUptoRow : OpenClaim := { program := "ytdfejnakhpgekaa", sum := "82fff0f7cf7dff69efdf942a543f418df26ad5e421b0aaa8882c963d5be9802c", func := "lookaside/lookasidelaw07.RegsBits", spec := "regsBits", plainKeys := false, apart := false, narrowed := true }
def RegsBitsUptoSaid : Prop := regsBitsUptoRow.holds Try.pinned (OpenSpec.upto regsBitsSpec)

/-- 'lookasidelaw07.RegsTwice', WHERE WHAT IT READS IS OF BULK AT MOST 1048576: true; the input reads as it did. -/
def regsTwiceUptoRow : OpenClaim := { program := "ytdfejnakhpgekaa", sum := "82fff0f7cf7dff69efdf942a543f418df26ad5e421b0aaa8882c963d5be9802c", func := "lookaside/lookasidelaw07.RegsTwice", spec := "regsTwice", plainKeys := false, apart := false, narrowed := true }
def RegsTwiceUptoSaid : Prop := regsTwiceUptoRow.holds Try.pinned (OpenSpec.upto regsTwiceSpec)

/-- 'lookasidelaw07.RegsOwn', WHERE WHAT IT READS IS OF BULK AT MOST 1048576: true; the input reads as it did. -/
def regsOwnUptoRow : OpenClaim := { program := "ytdfejnakhpgekaa", sum := "82fff0f7cf7dff69efdf942a543f418df26ad5e421b0aaa8882c963d5be9802c", func := "lookaside/lookasidelaw07.RegsOwn", spec := "regsOwn", plainKeys := false, apart := false, narrowed := true }
def RegsOwnUptoSaid : Prop := regsOwnUptoRow.holds Try.pinned (OpenSpec.upto regsOwnSpec)

/-- 'lookasidelaw07.RegsMisses', WHERE WHAT IT READS IS OF BULK AT MOST 1048576: true; the input reads as it did. -/
def regsMissesUptoRow : OpenClaim := { program := "ytdfejnakhpgekaa", sum := "82fff0f7cf7dff69efdf942a543f418df26ad5e421b0aaa8882c963d5be9802c", func := "lookaside/lookasidelaw07.RegsMisses", spec := "regsMisses", plainKeys := false, apart := false, narrowed := true }
def RegsMissesUptoSaid : Prop := regsMissesUptoRow.holds Try.pinned (OpenSpec.upto regsMissesSpec)

/-- 'lookasidelaw07.RegsPlays', WHERE WHAT IT READS IS OF BULK AT MOST 1048576: true; the input reads as it did. -/
def regsPlaysUptoRow : OpenClaim := { program := "ytdfejnakhpgekaa", sum := "82fff0f7cf7dff69efdf942a543f418df26ad5e421b0aaa8882c963d5be9802c", func := "lookaside/lookasidelaw07.RegsPlays", spec := "regsPlays", plainKeys := false, apart := false, narrowed := true }
def RegsPlaysUptoSaid : Prop := regsPlaysUptoRow.holds Try.pinned (OpenSpec.upto regsPlaysSpec)

/-- 'lookasidelaw06.TlbFinds', WHERE WHAT IT READS IS OF BULK AT MOST 1048576: true; the input reads as it did. -/
def tlbFindsUptoRow : OpenClaim := { program := "ytdfejnakhpgekaa", sum := "82fff0f7cf7dff69efdf942a543f418df26ad5e421b0aaa8882c963d5be9802c", func := "lookaside/lookasidelaw06.TlbFinds", spec := "tlbFinds", unfollowed := true, recurses := true, plainKeys := false, apart := false, narrowed := true }
def TlbFindsUptoSaid : Prop := tlbFindsUptoRow.holds Try.pinned (OpenSpec.upto tlbFindsSpec)

/-- 'lookasidelaw06.TlbLocks', WHERE WHAT IT READS IS OF BULK AT MOST 1048576: true; the input reads as it did. -/
def tlbLocksUptoRow : OpenClaim := { program := "ytdfejnakhpgekaa", sum := "82fff0f7cf7dff69efdf942a543f418df26ad5e421b0aaa8882c963d5be9802c", func := "lookaside/lookasidelaw06.TlbLocks", spec := "tlbLocks", unfollowed := true, recurses := true, plainKeys := false, apart := false, narrowed := true }
def TlbLocksUptoSaid : Prop := tlbLocksUptoRow.holds Try.pinned (OpenSpec.upto tlbLocksSpec)

/-- 'lookasidelaw06.TlbClears', WHERE WHAT IT READS IS OF BULK AT MOST 1048576: true; the input reads as it did. -/
def tlbClearsUptoRow : OpenClaim := { program := "ytdfejnakhpgekaa", sum := "82fff0f7cf7dff69efdf942a543f418df26ad5e421b0aaa8882c963d5be9802c", func := "lookaside/lookasidelaw06.TlbClears", spec := "tlbClears", unfollowed := true, recurses := true, plainKeys := false, apart := false, narrowed := true }
def TlbClearsUptoSaid : Prop := tlbClearsUptoRow.holds Try.pinned (OpenSpec.upto tlbClearsSpec)

/-- 'lookasidelaw06.TlbOnce', WHERE WHAT IT READS IS OF BULK AT MOST 1048576: true; the input reads as it did. -/
def tlbOnceUptoRow : OpenClaim := { program := "ytdfejnakhpgekaa", sum := "82fff0f7cf7dff69efdf942a543f418df26ad5e421b0aaa8882c963d5be9802c", func := "lookaside/lookasidelaw06.TlbOnce", spec := "tlbOnce", unfollowed := true, recurses := true, plainKeys := false, apart := false, narrowed := true }
def TlbOnceUptoSaid : Prop := tlbOnceUptoRow.holds Try.pinned (OpenSpec.upto tlbOnceSpec)

/-- 'lookasidelaw06.TlbDemaps', WHERE WHAT IT READS IS OF BULK AT MOST 1048576: true; the input reads as it did. -/
def tlbDemapsUptoRow : OpenClaim := { program := "ytdfejnakhpgekaa", sum := "82fff0f7cf7dff69efdf942a543f418df26ad5e421b0aaa8882c963d5be9802c", func := "lookaside/lookasidelaw06.TlbDemaps", spec := "tlbDemaps", unfollowed := true, recurses := true, plainKeys := false, apart := false, narrowed := true }
def TlbDemapsUptoSaid : Prop := tlbDemapsUptoRow.holds Try.pinned (OpenSpec.upto tlbDemapsSpec)

/-- 'lookasidelaw06.TlbPlays', WHERE WHAT IT READS IS OF BULK AT MOST 1048576: true; the input reads as it did. -/
def tlbPlaysUptoRow : OpenClaim := { program := "ytdfejnakhpgekaa", sum := "82fff0f7cf7dff69efdf942a543f418df26ad5e421b0aaa8882c963d5be9802c", func := "lookaside/lookasidelaw06.TlbPlays", spec := "tlbPlays", unfollowed := true, recurses := true, plainKeys := false, apart := false, narrowed := true }
def TlbPlaysUptoSaid : Prop := tlbPlaysUptoRow.holds Try.pinned (OpenSpec.upto tlbPlaysSpec)

/-- 'lookasidelaw13.SwapFrames', WHERE WHAT IT READS IS OF BULK AT MOST 1048576: true; the input reads as it did. -/
def swapFramesUptoRow : OpenClaim := { program := "ytdfejnakhpgekaa", sum := "82fff0f7cf7dff69efdf942a543f418df26ad5e421b0aaa8882c963d5be9802c", func := "lookaside/lookasidelaw13.SwapFrames", spec := "swapFrames", unfollowed := true, recurses := true, plainKeys := false, apart := false, narrowed := true }
def SwapFramesUptoSaid : Prop := swapFramesUptoRow.holds Try.pinned (OpenSpec.upto swapFramesSpec)

end Rows
end Go.Proofs.Ytdfejnakhpgekaa
