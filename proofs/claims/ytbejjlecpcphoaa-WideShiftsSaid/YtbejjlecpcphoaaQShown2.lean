/-
  The examples of chapter 2, by the kernel.
-/
import Derived.Test.YtbejjlecpcphoaaPx32
import Derived.Test.YtbejjlecpcphoaaQA
namespace Go.Proofs.Ytbejjlecpcphoaa.Q
open Go.RowKit Go.Proofs.YtbejjlecpcphoaaW.PrintWords Go.Proofs.YtbejjlecpcphoaaW.PrintLast Go.Proofs.YtbejjlecpcphoaaW.PrintMore
open Go.Proofs.Ytbejjlecpcphoaa.P
theorem shown2_at : tabardlaw2_shown.f 80 = some true := by decide +kernel
theorem shown2 : Ev (fun k => tabardlaw2_shown.f k) true := Ev.of tabardlaw2_shown.mono shown2_at
end Go.Proofs.Ytbejjlecpcphoaa.Q
