/- Lists of keys in plain Lean: what the reference takes, lays and folds. -/

import Derived.Test.YtaebmmjhokjdbaaHist
namespace Go.Proofs.Ytaebmmjhokjdbaa.PM
open Go.RowKit Go.Proofs.YtaebmmjhokjdbaaW.PrintWords Go.Proofs.YtaebmmjhokjdbaaW.PrintLast Go.Proofs.YtaebmmjhokjdbaaW.PrintMore Go.Proofs.Ytaebmmjhokjdbaa.My
set_option linter.unusedVariables false
namespace Hist
end Hist
end Go.Proofs.Ytaebmmjhokjdbaa.PM
