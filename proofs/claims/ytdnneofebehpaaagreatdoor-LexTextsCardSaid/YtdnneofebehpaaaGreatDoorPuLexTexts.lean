/- The pure statement of LexTexts (laid by wip/tools/rowgen.py). -/
import Derived.Test.YtdnneofebehpaaaGreatDoorLx13
import Derived.Test.YtdnneofebehpaaaGreatDoorOkL
namespace Go.Proofs.YtdnneofebehpaaaGreatDoor.L
open Go.RowKit Go.Proofs.YtdnneofebehpaaaGreatDoorW.PrintWords Go.Proofs.YtdnneofebehpaaaGreatDoorW.PrintLast Go.Proofs.YtdnneofebehpaaaGreatDoorRd Go.Proofs.YtdnneofebehpaaaGreatDoor.L
def LexTexts.Pure : Prop := ∀ (z0 : S28), ok28 z0 → ∃ k, dragomanlaw14_LexTexts.f k z0.f0 z0.f1.f0 z0.f1.f1 z0.f2.f0 z0.f2.f1 z0.f3 = some true
end Go.Proofs.YtdnneofebehpaaaGreatDoor.L
