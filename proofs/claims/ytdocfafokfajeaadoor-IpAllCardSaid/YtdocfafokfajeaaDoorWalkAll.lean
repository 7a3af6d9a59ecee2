/- The walk of IpAll at arguments that came in. -/
import Derived.Test.YtdocfafokfajeaaDoorPureAll
import Derived.Test.YtdocfafokfajeaaDoorRowBase
namespace Go.Proofs.YtdocfafokfajeaaDoor.PIp
open Go.RowKit Go.Proofs.YtdocfafokfajeaaDoorW.PrintWords Go.Proofs.YtdocfafokfajeaaDoorW.PrintLast Go.Proofs.YtdocfafokfajeaaDoorW.PrintMore
open Go.Proofs.YtdocfafokfajeaaDoor.Inet
set_option linter.unusedVariables false

theorem walk_all (t p s d : Int) (a0 : Option Addr) (len0 cap0 : Nat) (z0 : List Int) {w' : World} (w0 : RowB.IsRow .u8 w' a0 len0 cap0 z0) (a1 : Option Addr) (len1 cap1 : Nat) (z1 : List Int) {w'' : World} (w1 : RowB.IsRow .u8 w'' a1 len1 cap1 z1) (w : World) (hg : Handle w) (e : w' = w := by rfl) (e' : w'' = w := by rfl) :
    Calls Tryd.prog 3 #[.agg #[.int .i64 t, .int .i64 p, .int .i64 s, .int .i64 d, .slice a0 len0 cap0], .slice a1 len1 cap1] w fun e w' => e = .returned (.bool true) ∧ Below w.heap.size w w' := by
  subst e
  subst e'
  obtain ⟨l0, rfl, hr0, hm0, hw0, hc0⟩ := ReadsInt.ofRowC w0
  obtain ⟨l1, rfl, hr1, hm1, hw1, hc1⟩ := ReadsInt.ofRowC w1
  exact plenumlaw3_IpAll.calls 20 t p s d _ _ l0 _ _ l1 true _ (Kd.C_of_reads (d := (0 : Int)) (h1 := fun _ => rfl) hr0) hc0 (Kd.C_of_reads (d := (0 : Int)) (h1 := fun _ => rfl) hr1) hc1 hg (pure_all t p s d l0 l1 (bytes_of hw1))

end Go.Proofs.YtdocfafokfajeaaDoor.PIp
