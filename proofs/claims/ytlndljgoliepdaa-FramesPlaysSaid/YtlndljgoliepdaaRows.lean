/-
  No cell of these rows narrows 'for every input' (looked for: loops, veiled, ifaces, maps, wideKeys, modest, calm, conditions, laid).
  DERIVED. THE GIVEN ROWS OF THIS SEAT. 10 by the template 'for every input the law returns true; each argument reads behind the call as it read before'; 0 by the template 'total and deterministic' (their statements: YtlndljgoliepdaaTotals.lean).
  GIVEN WITH THE SEED: the statements are not yours to turn. If you find one false, say at which input.
  Laid BY PROGRAM, IN A SANDBOX (cutbox-rows.mjs): the forced cells as the released guide's own fill.sh prints them over the translation 6ec4e70d47e062a0… (all of the seat's roots in one cut). By AI agents, Wed Nov 11 2026. No macro, syntax, notation, axiom, sorry.
-/
import Derived.Test.YtlndljgoliepdaaChecked
import GoSem.Claim
import GoSem.ClaimJoined
import GoSem.ClaimMapViews
import Derived.JoinedTies
import Derived.KernelRfl
namespace Go.Proofs.Ytlndljgoliepdaa
/- THE CELL 'sum', in the pinned program and in every row, IS THE sha256 OF THE DUMP (.gsa) THAT YtlndljgoliepdaaProg.lean LOADS. Nothing in Lean hashes anything: it is a label: what it is worth is what the hold of that sum in a sandbox is worth. -/
noncomputable def Try.pinned : Pinned := { name := "ytlndljgoliepdaa", sum := "6ec4e70d47e062a0d67a639a3dca228fda861491858b46bf47f0c96c17de433a", checked := Try.checked }
namespace Rows
def none {H : Type} : Left H := { results := [], args := [] }

/-- 'lookasidelaw04.MemoryRound': WHATEVER THE INPUT: true; the input reads as it did. -/
def memoryRoundSpec : ChangeSpec := { name := "memoryRound", fn := fun _ => fun
  | [d1, d2, d3, d4] => { results := [.lit (.bool true)], args := [d1, d2, d3, d4] }
  | _ => none }
def memoryRoundRow : OpenClaim := { program := "ytlndljgoliepdaa", sum := "6ec4e70d47e062a0d67a639a3dca228fda861491858b46bf47f0c96c17de433a", func := "lookaside/lookasidelaw04.MemoryRound", spec := "memoryRound", apart := false }
def MemoryRoundSaid : Prop := memoryRoundRow.holds Try.pinned (OpenSpec.ofChange memoryRoundSpec)

/-- ITS FALSE NEIGHBOUR: 'it returns false'. Refute it at one input. -/
def memoryRoundWrong : ChangeSpec := { name := "memoryRound", fn := fun _ => fun
  | [d1, d2, d3, d4] => { results := [.lit (.bool false)], args := [d1, d2, d3, d4] }
  | _ => none }
def MemoryRoundWrongFalsely : Prop := memoryRoundRow.holds Try.pinned (OpenSpec.ofChange memoryRoundWrong)

/-- 'lookasidelaw04.MemoryWords': WHATEVER THE INPUT: true; the input reads as it did. -/
def memoryWordsSpec : ChangeSpec := { name := "memoryWords", fn := fun _ => fun
  | [d1, d2, d3] => { results := [.lit (.bool true)], args := [d1, d2, d3] }
  | _ => none }
def memoryWordsRow : OpenClaim := { program := "ytlndljgoliepdaa", sum := "6ec4e70d47e062a0d67a639a3dca228fda861491858b46bf47f0c96c17de433a", func := "lookaside/lookasidelaw04.MemoryWords", spec := "memoryWords", apart := false }
def MemoryWordsSaid : Prop := memoryWordsRow.holds Try.pinned (OpenSpec.ofChange memoryWordsSpec)

/-- ITS FALSE NEIGHBOUR: 'it returns false'. Refute it at one input. -/
def memoryWordsWrong : ChangeSpec := { name := "memoryWords", fn := fun _ => fun
  | [d1, d2, d3] => { results := [.lit (.bool false)], args := [d1, d2, d3] }
  | _ => none }
def MemoryWordsWrongFalsely : Prop := memoryWordsRow.holds Try.pinned (OpenSpec.ofChange memoryWordsWrong)

/-- 'lookasidelaw04.MemoryCopies': WHATEVER THE INPUT: true; the input reads as it did. -/
def memoryCopiesSpec : ChangeSpec := { name := "memoryCopies", fn := fun _ => fun
  | [d1, d2, d3, d4] => { results := [.lit (.bool true)], args := [d1, d2, d3, d4] }
  | _ => none }
def memoryCopiesRow : OpenClaim := { program := "ytlndljgoliepdaa", sum := "6ec4e70d47e062a0d67a639a3dca228fda861491858b46bf47f0c96c17de433a", func := "lookaside/lookasidelaw04.MemoryCopies", spec := "memoryCopies", inPlace := ["maps.clone"], apart := false }
def MemoryCopiesSaid : Prop := memoryCopiesRow.holds Try.pinned (OpenSpec.ofChange memoryCopiesSpec)

/-- ITS FALSE NEIGHBOUR: 'it returns false'. Refute it at one input. -/
def memoryCopiesWrong : ChangeSpec := { name := "memoryCopies", fn := fun _ => fun
  | [d1, d2, d3, d4] => { results := [.lit (.bool false)], args := [d1, d2, d3, d4] }
  | _ => none }
def MemoryCopiesWrongFalsely : Prop := memoryCopiesRow.holds Try.pinned (OpenSpec.ofChange memoryCopiesWrong)

/-- 'lookasidelaw04.MemoryEdges': WHATEVER THE INPUT: true; the input reads as it did. -/
def memoryEdgesSpec : ChangeSpec := { name := "memoryEdges", fn := fun _ => fun
  | [d1, d2] => { results := [.lit (.bool true)], args := [d1, d2] }
  | _ => none }
def memoryEdgesRow : OpenClaim := { program := "ytlndljgoliepdaa", sum := "6ec4e70d47e062a0d67a639a3dca228fda861491858b46bf47f0c96c17de433a", func := "lookaside/lookasidelaw04.MemoryEdges", spec := "memoryEdges", inPlace := ["maps.clone"], apart := false }
def MemoryEdgesSaid : Prop := memoryEdgesRow.holds Try.pinned (OpenSpec.ofChange memoryEdgesSpec)

/-- ITS FALSE NEIGHBOUR: 'it returns false'. Refute it at one input. -/
def memoryEdgesWrong : ChangeSpec := { name := "memoryEdges", fn := fun _ => fun
  | [d1, d2] => { results := [.lit (.bool false)], args := [d1, d2] }
  | _ => none }
def MemoryEdgesWrongFalsely : Prop := memoryEdgesRow.holds Try.pinned (OpenSpec.ofChange memoryEdgesWrong)

/-- 'lookasidelaw04.MemoryApart': WHATEVER THE INPUT: true; the input reads as it did. -/
def memoryApartSpec : ChangeSpec := { name := "memoryApart", fn := fun _ => fun
  | [d1, d2] => { results := [.lit (.bool true)], args := [d1, d2] }
  | _ => none }
def memoryApartRow : OpenClaim := { program := "ytlndljgoliepdaa", sum := "6ec4e70d47e062a0d67a639a3dca228fda861491858b46bf47f0c96c17de433a", func := "lookaside/lookasidelaw04.MemoryApart", spec := "memoryApart", inPlace := ["maps.clone"], apart := false }
def MemoryApartSaid : Prop := memoryApartRow.holds Try.pinned (OpenSpec.ofChange memoryApartSpec)

/-- ITS FALSE NEIGHBOUR: 'it returns false'. Refute it at one input. -/
def memoryApartWrong : ChangeSpec := { name := "memoryApart", fn := fun _ => fun
  | [d1, d2] => { results := [.lit (.bool false)], args := [d1, d2] }
  | _ => none }
def MemoryApartWrongFalsely : Prop := memoryApartRow.holds Try.pinned (OpenSpec.ofChange memoryApartWrong)

/-- 'lookasidelaw05.FramesSizes': WHATEVER THE INPUT: true; the input reads as it did. -/
def framesSizesSpec : ChangeSpec := { name := "framesSizes", fn := fun _ => fun
  | [d1, d2] => { results := [.lit (.bool true)], args := [d1, d2] }
  | _ => none }
def framesSizesRow : OpenClaim := { program := "ytlndljgoliepdaa", sum := "6ec4e70d47e062a0d67a639a3dca228fda861491858b46bf47f0c96c17de433a", func := "lookaside/lookasidelaw05.FramesSizes", spec := "framesSizes", unfollowed := true, recurses := true, apart := false }
def FramesSizesSaid : Prop := framesSizesRow.holds Try.pinned (OpenSpec.ofChange framesSizesSpec)

/-- ITS FALSE NEIGHBOUR: 'it returns false'. Refute it at one input. -/
def framesSizesWrong : ChangeSpec := { name := "framesSizes", fn := fun _ => fun
  | [d1, d2] => { results := [.lit (.bool false)], args := [d1, d2] }
  | _ => none }
def FramesSizesWrongFalsely : Prop := framesSizesRow.holds Try.pinned (OpenSpec.ofChange framesSizesWrong)

/-- 'lookasidelaw05.FramesFirst': WHATEVER THE INPUT: true; the input reads as it did. -/
def framesFirstSpec : ChangeSpec := { name := "framesFirst", fn := fun _ => fun
  | [d1, d2, d3] => { results := [.lit (.bool true)], args := [d1, d2, d3] }
  | _ => none }
def framesFirstRow : OpenClaim := { program := "ytlndljgoliepdaa", sum := "6ec4e70d47e062a0d67a639a3dca228fda861491858b46bf47f0c96c17de433a", func := "lookaside/lookasidelaw05.FramesFirst", spec := "framesFirst", unfollowed := true, recurses := true, apart := false }
def FramesFirstSaid : Prop := framesFirstRow.holds Try.pinned (OpenSpec.ofChange framesFirstSpec)

/-- ITS FALSE NEIGHBOUR: 'it returns false'. Refute it at one input. -/
def framesFirstWrong : ChangeSpec := { name := "framesFirst", fn := fun _ => fun
  | [d1, d2, d3] => { results := [.lit (.bool false)], args := [d1, d2, d3] }
  | _ => none }
def FramesFirstWrongFalsely : Prop := framesFirstRow.holds Try.pinned (OpenSpec.ofChange framesFirstWrong)

/-- 'lookasidelaw05.FramesMany': WHATEVER THE INPUT: true; the input reads as it did. -/
def framesManySpec : ChangeSpec := { name := "framesMany", fn := fun _ => fun
  | [d1, d2, d3] => { results := [.lit (.bool true)], args := [d1, d2, d3] }
  | _ => none }
def framesManyRow : OpenClaim := { program := "ytlndljgoliepdaa", sum := "6ec4e70d47e062a0d67a639a3dca228fda861491858b46bf47f0c96c17de433a", func := "lookaside/lookasidelaw05.FramesMany", spec := "framesMany", unfollowed := true, recurses := true, apart := false }
def FramesManySaid : Prop := framesManyRow.holds Try.pinned (OpenSpec.ofChange framesManySpec)

/-- ITS FALSE NEIGHBOUR: 'it returns false'. Refute it at one input. -/
def framesManyWrong : ChangeSpec := { name := "framesMany", fn := fun _ => fun
  | [d1, d2, d3] => { results := [.lit (.bool false)], args := [d1, d2, d3] }
  | _ => none }
def FramesManyWrongFalsely : Prop := framesManyRow.holds Try.pinned (OpenSpec.ofChange framesManyWrong)

/-- 'lookasidelaw05.FramesApart': WHATEVER THE INPUT: true; the input reads as it did. -/
def framesApartSpec : ChangeSpec := { name := "framesApart", fn := fun _ => fun
  | [d1, d2] => { results := [.lit (.bool true)], args := [d1, d2] }
  | _ => none }
def framesApartRow : OpenClaim := { program := "ytlndljgoliepdaa", sum := "6ec4e70d47e062a0d67a639a3dca228fda861491858b46bf47f0c96c17de433a", func := "lookaside/lookasidelaw05.FramesApart", spec := "framesApart", unfollowed := true, recurses := true, apart := false }
def FramesApartSaid : Prop := framesApartRow.holds Try.pinned (OpenSpec.ofChange framesApartSpec)

/-- ITS FALSE NEIGHBOUR: 'it returns false'. Refute it at one input. -/
def framesApartWrong : ChangeSpec := { name := "framesApart", fn := fun _ => fun
  | [d1, d2] => { results := [.lit (.bool false)], args := [d1, d2] }
  | _ => none }
def FramesApartWrongFalsely : Prop := framesApartRow.holds Try.pinned (OpenSpec.ofChange framesApartWrong)

/-- 'lookasidelaw05.FramesPlays': WHATEVER THE INPUT: true; the input reads as it did. -/
def framesPlaysSpec : ChangeSpec := { name := "framesPlays", fn := fun _ => fun
  | [d1, d2] => { results := [.lit (.bool true)], args := [d1, d2] }
  | _ => none }
def framesPlaysRow : OpenClaim := { program := "ytlndljgoliepdaa", sum := "6ec4e70d47e062a0d67a639a3dca228fda861491858b46bf47f0c96c17de433a", func := "lookaside/lookasidelaw05.FramesPlays", spec := "framesPlays", unfollowed := true, recurses := true, apart := false }
def FramesPlaysSaid : Prop := framesPlaysRow.holds Try.pinned (OpenSpec.ofChange framesPlaysSpec)

/-- ITS FALSE NEIGHBOUR: 'it returns false'. Refute it at one input. -/
def framesPlaysWrong : ChangeSpec := { name := "framesPlays", fn := fun _ => fun
  | [d1, d2] => { results := [.lit (.bool false)], args := [d1, d2] }
  | _ => none }
def FramesPlaysWrongFalsely : Prop := framesPlaysRow.holds Try.pinned (OpenSpec.ofChange framesPlaysWrong)

/- THE SECOND FORM. 'bulk': how many values and letters a reading holds, each counted each time it is reached (what is shared counts as often as it is met; a slice's spare places count too). A statement '..UptoSaid' is the law's where the arguments, and the package variables that the reading takes, are together of bulk at most 1048576: NARROWER than '..Said'. Prove '..Said' where nothing that the law and all that it calls make is longer than what came in: it says more and counts as full. Else prove '..UptoSaid'. A law counts once. -/
mutual
def uptoBulk {H : Type} : DataW H → Nat
  | .lit (.string bytes) => bytes.length + 1
  | .lit _ => 1
  | .nil => 1
  | .ptr d => uptoBulk d + 1
  | .slice elems spare => uptoBulkAll elems + uptoBulkAll spare + 1
  | .agg parts => uptoBulkAll parts + 1
  | .iface _ d => uptoBulk d + 1
  | .map entries => uptoBulkEntries entries + 1
  | .held _ => 1
def uptoBulkAll {H : Type} : List (DataW H) → Nat
  | [] => 0
  | d :: r => uptoBulk d + uptoBulkAll r
def uptoBulkEntries {H : Type} : List (Lit × DataW H) → Nat
  | [] => 0
  | x :: r => uptoBulkEntry x + uptoBulkEntries r
def uptoBulkEntry {H : Type} : Lit × DataW H → Nat
  | (.string bytes, d) => bytes.length + uptoBulk d + 1
  | (_, d) => uptoBulk d + 1
 end
def uptoSmall : (H : Type) → List (DataW H) → Bool := fun _ ds => decide (uptoBulkAll ds ≤ 1048576)
def OpenSpec.upto (s : _root_.Go.ChangeSpec) : _root_.Go.OpenSpec := { _root_.Go.OpenSpec.ofChange s with cond := some uptoSmall }

/-- 'lookasidelaw04.MemoryRound', WHERE WHAT IT READS IS OF BULK AT MOST 1048576: true; the input reads as it did. -/
def memoryRoundUptoRow : OpenClaim := { program := "ytlndljgoliepdaa", sum := "6ec4e70d47e062a0d67a639a3dca228fda861491858b46bf47f0c96c17de433a", func := "lookaside/lookasidelaw04.MemoryRound", spec := "memoryRound", apart := false, narrowed := true }
def MemoryRoundUptoSaid : Prop := memoryRoundUptoRow.holds Try.pinned (OpenSpec.upto memoryRoundSpec)

/-- 'lookasidelaw04.MemoryWords', WHERE WHAT IT READS IS OF BULK AT MOST 1048576: true; the input reads as it did. -/
def memoryWordsUptoRow : OpenClaim := { program := "ytlndljgoliepdaa", sum := "6ec4e70d47e062a0d67a639a3dca228fda861491858b46bf47f0c96c17de433a", func := "lookaside/lookasidelaw04.MemoryWords", spec := "memoryWords", apart := false, narrowed := true }
def MemoryWordsUptoSaid : Prop := memoryWordsUptoRow.holds Try.pinned (OpenSpec.upto memoryWordsSpec)

/-- 'lookasidelaw04.MemoryCopies', WHERE WHAT IT READS IS OF BULK AT MOST 1048576: true; the input reads as it did. -/
def memoryCopiesUptoRow : OpenClaim := { program := "ytlndljgoliepdaa", sum := "6ec4e70d47e062a0d67a639a3dca228fda861491858b46bf47f0c96c17de433a", func := "lookaside/lookasidelaw04.MemoryCopies", spec := "memoryCopies", inPlace := ["maps.clone"], apart := false, narrowed := true }
def MemoryCopiesUptoSaid : Prop := memoryCopiesUptoRow.holds Try.pinned (OpenSpec.upto memoryCopiesSpec)

/-- 'lookasidelaw04.MemoryEdges', WHERE WHAT IT READS IS OF BULK AT MOST 1048576: true; the input reads as it did. -/
def memoryEdgesUptoRow : OpenClaim := { program := "ytlndljgoliepdaa", sum := "6ec4e70d47e062a0d67a639a3dca228fda861491858b46bf47f0c96c17de433a", func := "lookaside/lookasidelaw04.MemoryEdges", spec := "memoryEdges", inPlace := ["maps.clone"], apart := false, narrowed := true }
def MemoryEdgesUptoSaid : Prop := memoryEdgesUptoRow.holds Try.pinned (OpenSpec.upto memoryEdgesSpec)

/-- 'lookasidelaw04.MemoryApart', WHERE WHAT IT READS IS OF BULK AT MOST 1048576: true; the input reads as it did. -/
def memoryApartUptoRow : OpenClaim := { program := "ytlndljgoliepdaa", sum := "6ec4e70d47e062a0d67a639a3dca228fda861491858b46bf47f0c96c17de433a", func := "lookaside/lookasidelaw04.MemoryApart", spec := "memoryApart", inPlace := ["maps.clone"], apart := false, narrowed := true }
def MemoryApartUptoSaid : Prop := memoryApartUptoRow.holds Try.pinned (OpenSpec.upto memoryApartSpec)

/-- 'lookasidelaw05.FramesSizes', WHERE WHAT IT READS IS OF BULK AT MOST 1048576: true; the input reads as it did. -/
def framesSizesUptoRow : OpenClaim := { program := "ytlndljgoliepdaa", sum := "6ec4e70d47e062a0d67a639a3dca228fda861491858b46bf47f0c96c17de433a", func := "lookaside/lookasidelaw05.FramesSizes", spec := "framesSizes", unfollowed := true, recurses := true, apart := false, narrowed := true }
def FramesSizesUptoSaid : Prop := framesSizesUptoRow.holds Try.pinned (OpenSpec.upto framesSizesSpec)

/-- 'lookasidelaw05.FramesFirst', WHERE WHAT IT READS IS OF BULK AT MOST 1048576: true; the input reads as it did. -/
def framesFirstUptoRow : OpenClaim := { program := "ytlndljgoliepdaa", sum := "6ec4e70d47e062a0d67a639a3dca228fda861491858b46bf47f0c96c17de433a", func := "lookaside/lookasidelaw05.FramesFirst", spec := "framesFirst", unfollowed := true, recurses := true, apart := false, narrowed := true }
def FramesFirstUptoSaid : Prop := framesFirstUptoRow.holds Try.pinned (OpenSpec.upto framesFirstSpec)

/-- 'lookasidelaw05.FramesMany', WHERE WHAT IT READS IS OF BULK AT MOST 1048576: true; the input reads as it did. -/
def framesManyUptoRow : OpenClaim := { program := "ytlndljgoliepdaa", sum := "6ec4e70d47e062a0d67a639a3dca228fda861491858b46bf47f0c96c17de433a", func := "lookaside/lookasidelaw05.FramesMany", spec := "framesMany", unfollowed := true, recurses := true, apart := false, narrowed := true }
def FramesManyUptoSaid : Prop := framesManyUptoRow.holds Try.pinned (OpenSpec.upto framesManySpec)

/-- 'lookasidelaw05.FramesApart', WHERE WHAT IT READS IS OF BULK AT MOST 1048576: true; the input reads as it did. -/
def framesApartUptoRow : OpenClaim := { program := "ytlndljgoliepdaa", sum := "6ec4e70d47e062a0d67a639a3dca228fda861491858b46bf47f0c96c17de433a", func := "lookaside/lookasidelaw05.FramesApart", spec := "framesApart", unfollowed := true, recurses := true, apart := false, narrowed := true }
def FramesApartUptoSaid : Prop := framesApartUptoRow.holds Try.pinned (OpenSpec.upto framesApartSpec)

/-- 'lookasidelaw05.FramesPlays', WHERE WHAT IT READS IS OF BULK AT MOST 1048576: true; the input reads as it did. -/
def framesPlaysUptoRow : OpenClaim := { program := "ytlndljgoliepdaa", sum := "6ec4e70d47e062a0d67a639a3dca228fda861491858b46bf47f0c96c17de433a", func := "lookaside/lookasidelaw05.FramesPlays", spec := "framesPlays", unfollowed := true, recurses := true, apart := false, narrowed := true }
def FramesPlaysUptoSaid : Prop := framesPlaysUptoRow.holds Try.pinned (OpenSpec.upto framesPlaysSpec)

end Rows
end Go.Proofs.Ytlndljgoliepdaa
