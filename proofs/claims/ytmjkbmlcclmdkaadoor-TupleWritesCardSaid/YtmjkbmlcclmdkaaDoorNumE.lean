/-
  No walks: what NumD has.
-/
import Derived.Test.YtmjkbmlcclmdkaaDoorNumD
namespace Go.Proofs.YtmjkbmlcclmdkaaDoor
open Go Go.Gw Go.NumP Go.CrcP Go.SealP Go.RowKit
set_option linter.unusedVariables false
set_option linter.unusedSimpArgs false



end Go.Proofs.YtmjkbmlcclmdkaaDoor
