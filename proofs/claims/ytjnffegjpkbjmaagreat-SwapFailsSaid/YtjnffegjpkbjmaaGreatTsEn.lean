/- An entry made such as may be here, of what a law is handed. -/
import Derived.Test.YtjnffegjpkbjmaaGreatTsB
import Derived.Test.YtjnffegjpkbjmaaGreatEnOpen
/- merged: YtjnffegjpkbjmaaGreatTsLv -/
namespace Go.Proofs.YtjnffegjpkbjmaaGreat.Mem
open Go.RowKit Go.Maps Go.Proofs.YtjnffegjpkbjmaaGreatW.PrintWords Go.Proofs.YtjnffegjpkbjmaaGreatW.PrintLast Go.Proofs.YtjnffegjpkbjmaaGreatW.PrintMore Go.Proofs.YtjnffegjpkbjmaaGreat.QTsbPlays Go.Proofs.YtjnffegjpkbjmaaGreat.Pure
set_option linter.unusedSimpArgs false
set_option linter.unusedVariables false
section
set_option maxHeartbeats 2000000
set_option maxRecDepth 100000
def g0 : GE := (⟨0, 1, 8192, 16384, false, false, false, false, false, false⟩ : GE)
end
end Go.Proofs.YtjnffegjpkbjmaaGreat.Mem
namespace Go.Proofs.YtjnffegjpkbjmaaGreat.Mem
open Go.RowKit Go.Maps Go.Proofs.YtjnffegjpkbjmaaGreatW.PrintWords Go.Proofs.YtjnffegjpkbjmaaGreatW.PrintLast Go.Proofs.YtjnffegjpkbjmaaGreatW.PrintMore Go.Proofs.YtjnffegjpkbjmaaGreat.QTsbPlays Go.Proofs.YtjnffegjpkbjmaaGreat.Pure
set_option linter.unusedSimpArgs false
set_option linter.unusedVariables false
section
set_option maxHeartbeats 1000000
set_option maxRecDepth 100000
def geE (s : Nat) (e : Ent) : GE := geOf s e.f1 e.f2.toNat e.f3.toNat e.f4.f0 e.f4.f1 e.f4.f2 e.f4.f3 e.f4.f4 e.f4.f5
theorem geE_ok (s : Nat) (e : Ent) (hs : s < 4) : (geE s e).ok := geOf_ok s _ _ _ _ _ _ _ _ _ hs
theorem below_of_grown {W W1 : World} (h : W.grownBy W1 none) : Below W.heap.size W W1 := ⟨h.os, h.tape, h.output, h.size, fun k hk => h.block k hk (by simp)⟩
end
end Go.Proofs.YtjnffegjpkbjmaaGreat.Mem
