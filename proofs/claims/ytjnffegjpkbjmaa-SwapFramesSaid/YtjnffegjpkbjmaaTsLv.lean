/- The document's example of a TSB lives. -/
import Derived.Test.YtjnffegjpkbjmaaTsB
namespace Go.Proofs.Ytjnffegjpkbjmaa.Mem
open Go.RowKit Go.Maps Go.Proofs.YtjnffegjpkbjmaaW.PrintWords Go.Proofs.YtjnffegjpkbjmaaW.PrintLast Go.Proofs.YtjnffegjpkbjmaaW.PrintMore Go.Proofs.Ytjnffegjpkbjmaa.QTsbPlays Go.Proofs.Ytjnffegjpkbjmaa.Pure
set_option linter.unusedSimpArgs false
set_option linter.unusedVariables false
section
set_option maxHeartbeats 2000000
set_option maxRecDepth 100000
theorem tlen_calls {W pt p} {base : Int} {N : Nat} {size grade : Int} (kt : W.heap[pt]? = some (.cells (TCs p base N size grade) 95 (0, 0))) : Calls Try.prog 17 #[.pointer (some ⟨pt, 0, none⟩)] W fun e W' => e = .returned (.int .i64 N) ∧ W.grownBy W' none := by
  obtain ⟨y0, y1, y2, y3, y4⟩ := cz5 kt
  clear kt
  go_enter Try.func17, Try.ntmps17
  go_wp2
  go_ret
  exact ⟨rfl, grown_refl _ _⟩
end
end Go.Proofs.Ytjnffegjpkbjmaa.Mem
