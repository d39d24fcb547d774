/- LexLines, plainly. -/
import Derived.Test.YtdnneofebehpaaaDoorQc
import Derived.Test.YtdnneofebehpaaaDoorLx13
namespace Go.Proofs.YtdnneofebehpaaaDoor.L
open Go.RowKit Go.Proofs.YtdnneofebehpaaaDoorW.PrintWords Go.Proofs.YtdnneofebehpaaaDoorW.PrintLast Go.Proofs.YtdnneofebehpaaaDoorW.PrintMore Go.Proofs.YtdnneofebehpaaaDoor.LexPlain
theorem ask_size {s : ByteArray} (h : askV s = 0) : s.size ≤ 65536 := by
  apply Classical.byContradiction
  intro q
  unfold askV at h
  rw [if_pos (by omega)] at h
  exact absurd h (by decide)
end Go.Proofs.YtdnneofebehpaaaDoor.L
