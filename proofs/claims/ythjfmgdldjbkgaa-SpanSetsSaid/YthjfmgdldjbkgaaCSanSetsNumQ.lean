/- What the printed functions of layer 1 come to. -/
import Derived.Test.YthjfmgdldjbkgaaNumLib
import Derived.Test.YthjfmgdldjbkgaaCSanSetsx
namespace Go.Proofs.Ythjfmgdldjbkgaa.CSanSets
open Go.RowKit Go.Proofs.Ythjfmgdldjbkgaa.Lib Go.Proofs.YthjfmgdldjbkgaaW.PrintWords Go.Proofs.YthjfmgdldjbkgaaW.PrintLast Go.Proofs.YthjfmgdldjbkgaaW.PrintMore

theorem num_Sub_eq {a b : Int} (ha : -9223372036854775808 ≤ a ∧ a ≤ 9223372036854775807) (hb : -9223372036854775808 ≤ b ∧ b ≤ 9223372036854775807) : num_Sub.f a b = some (chk (a - b)) := sub_eq ha hb
/-- The nearest number between two ends. -/
def near (lo hi x : Int) : Int := if x > hi then hi else if x < lo then lo else x
end Go.Proofs.Ythjfmgdldjbkgaa.CSanSets
