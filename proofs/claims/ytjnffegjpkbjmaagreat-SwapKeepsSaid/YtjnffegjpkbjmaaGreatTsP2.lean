/- An address's index, and an entry's hits, as the document tells them; which entry stands at a place behind others were put. -/
import Derived.Test.YtjnffegjpkbjmaaGreatPureTsb
set_option linter.unusedVariables false
set_option linter.unusedSimpArgs false
namespace Go.Proofs.YtjnffegjpkbjmaaGreat.Pure
open Go.RowKit Go.Proofs.YtjnffegjpkbjmaaGreat.QTsbPlays Go.Proofs.YtjnffegjpkbjmaaGreatW.PrintWords Go.Proofs.YtjnffegjpkbjmaaGreatW.PrintLast Go.Proofs.YtjnffegjpkbjmaaGreatW.PrintMore
end Go.Proofs.YtjnffegjpkbjmaaGreat.Pure
