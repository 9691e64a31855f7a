/- Plain numbers: what the wraps of Go's integers are where nothing wraps; lowest bits and signs. No program in sight but the words of the print. -/
import Derived.Test.YtliohoalackhiaaKW
import Derived.OpenShut
namespace Go.Proofs.Ytliohoalackhiaa.Num
open Go.RowKit Go.Proofs.YtliohoalackhiaaW.PrintWords Go.Proofs.YtliohoalackhiaaW.PrintLast Go.Proofs.YtliohoalackhiaaW.PrintMore
theorem w64 {x : Int} (h0 : -9223372036854775808 ≤ x) (h1 : x ≤ 9223372036854775807) : wrap64 x = x := by
  unfold wrap64; omega
theorem tdivn {a b : Int} (h : 0 ≤ a) : Int.tdiv a b = a / b := Int.tdiv_eq_ediv_of_nonneg h
theorem tmodn {a b : Int} (h : 0 ≤ a) : Int.tmod a b = a % b := Int.tmod_eq_emod_of_nonneg h
end Go.Proofs.Ytliohoalackhiaa.Num
