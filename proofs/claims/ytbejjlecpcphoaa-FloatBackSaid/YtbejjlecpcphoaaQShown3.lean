/-
  The shown cases of the third law, by evaluation.
-/
import Derived.Test.YtbejjlecpcphoaaPx10
namespace Go.Proofs.Ytbejjlecpcphoaa.Q
open Go.RowKit Go.Proofs.YtbejjlecpcphoaaW.PrintWords Go.Proofs.YtbejjlecpcphoaaW.PrintLast Go.Proofs.YtbejjlecpcphoaaW.PrintMore
open Go.Proofs.Ytbejjlecpcphoaa.P
set_option maxRecDepth 100000
theorem shown3_at : tabardlaw3_shown.f 80 = some true := by decide +kernel
theorem shown3 : Ev (fun k => tabardlaw3_shown.f k) true := Ev.of tabardlaw3_shown.mono shown3_at
end Go.Proofs.Ytbejjlecpcphoaa.Q
