/- The walk of IpTurned at arguments that came in. -/
import Derived.Test.YtdocfafokfajeaaDoorPureTurned
import Derived.Test.YtdocfafokfajeaaDoorRowBase
namespace Go.Proofs.YtdocfafokfajeaaDoor.PIp
open Go.RowKit Go.Proofs.YtdocfafokfajeaaDoorW.PrintWords Go.Proofs.YtdocfafokfajeaaDoorW.PrintLast Go.Proofs.YtdocfafokfajeaaDoorW.PrintMore
open Go.Proofs.YtdocfafokfajeaaDoor.Inet
set_option linter.unusedVariables false

theorem u8_of {a : Int} (h : (Lit.int .u8 a).wf = true) : 0 ≤ a ∧ a < 256 :=
  bytes_of (l := [a]) (by intro x hx; simp at hx; subst hx; exact h) a (by simp)

theorem walk_turned (t p s d : Int) (a0 : Option Addr) (len0 cap0 : Nat) (z0 : List Int) {w' : World} (w0 : RowB.IsRow .u8 w' a0 len0 cap0 z0) (a1 : Int) (w1 : (Lit.int .u8 a1).wf = true) (a2 : Int) (w2 : (Lit.int .u8 a2).wf = true) (w : World) (hg : Handle w) (e : w' = w := by rfl) :
    Calls Tryd.prog 6 #[.agg #[.int .i64 t, .int .i64 p, .int .i64 s, .int .i64 d, .slice a0 len0 cap0], .int .u8 a1, .int .u8 a2] w fun e w' => e = .returned (.bool true) ∧ Below w.heap.size w w' := by
  subst e
  obtain ⟨l0, rfl, hr0, hm0, hw0, hc0⟩ := ReadsInt.ofRowC w0
  exact plenumlaw3_IpTurned.calls 2 t p s d _ _ l0 a1 a2 true _ (Kd.C_of_reads (d := (0 : Int)) (h1 := fun _ => rfl) hr0) hc0 hg (pure_turned t p s d l0 a1 a2 (bytes_of hw0) (u8_of w1) (u8_of w2))

end Go.Proofs.YtdocfafokfajeaaDoor.PIp
