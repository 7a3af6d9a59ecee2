/- IpJust: what bytes are a datagram's its own bytes are: the law in closed form answers true at any bytes. -/
import Derived.Test.YtdocfafokfajeaaDoorLaw0
import Derived.Test.YtdocfafokfajeaaDoorFJust
namespace Go.Proofs.YtdocfafokfajeaaDoor.PIp
open Go.RowKit Go.Proofs.YtdocfafokfajeaaDoorW.PrintWords Go.Proofs.YtdocfafokfajeaaDoorW.PrintLast Go.Proofs.YtdocfafokfajeaaDoorW.PrintMore
open Go.Proofs.YtdocfafokfajeaaDoor.Inet
set_option linter.unusedVariables false
set_option linter.unusedSimpArgs false

theorem pure_just (l : List Int) (hb : Bytes l) : plenumlaw3_IpJust.f l = some true := by
  unfold plenumlaw3_IpJust.f plenumlaw1_Num.f
  by_cases h3 : (l.length : Int) > 3000
  · rw [if_pos h3, awake_true]; rfl
  · rw [if_neg h3]
    obtain ⟨t, p, s, d, m, c, hg⟩ := get_some hb
    rw [hg]
    simp only [Option.bind_some]
    by_cases hc : c = 0
    · subst hc
      obtain ⟨hf, hm, hbm, hh⟩ := put_get hb hg
      rw [if_pos rfl, put_fits hf hm]
      simp only [Option.bind_some]
      rw [if_pos trivial, hh, if_pos rfl, awake_true]; rfl
    · rw [if_neg hc, awake_true]; rfl

/-- The whole call, at a slice that came in. -/
theorem walk_just (a0 : Option Addr) (len0 cap0 : Nat) (z0 : List Int) (w : World) (hg : Handle w) (w0 : (a0 = none ∧ len0 = 0 ∧ cap0 = 0 ∧ z0 = []) ∨ ∃ x, a0 = some x ∧ len0 ≤ cap0 ∧ cap0 ≤ maxLen ∧ z0.length = cap0 ∧ (∀ i, i < z0.length → w.cell? (x.add i) = some (.int .u8 (z0.getD i 0))) ∧ ∀ n ∈ z0, (Lit.int .u8 n).wf = true) :
    Calls Tryd.prog 5 #[.slice a0 len0 cap0] w fun e w' => e = .returned (.bool true) ∧ Below w.heap.size w w' := by
  obtain ⟨l0, rfl, hr0, hm0, hw0, hc0⟩ := ReadsInt.ofRowC w0
  exact plenumlaw3_IpJust.calls _ _ l0 true w (Kd.C_of_reads (d := (0 : Int)) (h1 := fun _ => rfl) hr0) hc0 hg (pure_just l0 (bytes_of hw0))

end Go.Proofs.YtdocfafokfajeaaDoor.PIp
