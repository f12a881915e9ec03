/-
  The shown cases of the fourth law, by evaluation.
-/
import Derived.Test.YtbejjlecpcphoaaPx50
namespace Go.Proofs.Ytbejjlecpcphoaa.Q
open Go.RowKit Go.Proofs.YtbejjlecpcphoaaW.PrintWords Go.Proofs.YtbejjlecpcphoaaW.PrintLast Go.Proofs.YtbejjlecpcphoaaW.PrintMore
open Go.Proofs.Ytbejjlecpcphoaa.P
set_option maxRecDepth 100000
theorem shown4_at : tabardlaw4_shown.f 80 = some true := by decide +kernel
theorem shown4 : Ev (fun k => tabardlaw4_shown.f k) true := Ev.of tabardlaw4_shown.mono shown4_at
end Go.Proofs.Ytbejjlecpcphoaa.Q
