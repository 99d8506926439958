/-
  The walks of the reference's Same, Term, Folded.
-/
import Derived.Test.YtcdcehjilneifaaTokB
import Derived.Test.YtcdcehjilneifaaTokC
namespace Go.Proofs.Ytcdcehjilneifaa
open Go Go.Gw Go.UtfP Go.TokP Go.RowKit
set_option linter.unusedVariables false
set_option linter.unusedSimpArgs false
set_option maxRecDepth 20000




end Go.Proofs.Ytcdcehjilneifaa
