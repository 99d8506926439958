/-
  The walks of Term and Folded.
-/
import Derived.Test.YtcdcehjilneifaaTokA
namespace Go.Proofs.Ytcdcehjilneifaa
open Go Go.Gw Go.UtfP Go.TokP Go.RowKit
set_option linter.unusedVariables false
set_option linter.unusedSimpArgs false
set_option maxRecDepth 20000




end Go.Proofs.Ytcdcehjilneifaa
