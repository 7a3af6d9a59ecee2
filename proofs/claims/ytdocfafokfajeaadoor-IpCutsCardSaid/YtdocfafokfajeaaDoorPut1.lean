/- ip.Put: whatever the datagram, its bytes or an error's number as the closed form says. Conditions: none beside what the slice's cells hold. -/
import Derived.Test.YtdocfafokfajeaaDoorPut0
namespace Go.Proofs.YtdocfafokfajeaaDoor.PIp
open Go.RowKit Go.Proofs.YtdocfafokfajeaaDoorW.PrintWords Go.Proofs.YtdocfafokfajeaaDoorW.PrintLast Go.Proofs.YtdocfafokfajeaaDoorW.PrintMore
open Go.Proofs.YtdocfafokfajeaaDoor.Inet
set_option linter.unusedVariables false
set_option linter.unusedSimpArgs false

theorem right_true (a : Int) (h0 : 0 ≤ a) (h1 : a ≤ 4294967295) : addr_Right.f a = some true := by
  unfold addr_Right.f
  rw [if_pos h0, decide_eq_true h1]
theorem right_false (a : Int) (h : ¬ (0 ≤ a ∧ a ≤ 4294967295)) : addr_Right.f a = some false := by
  unfold addr_Right.f
  by_cases h0 : a ≥ 0
  · rw [if_pos h0, decide_eq_false (by omega)]
  · rw [if_neg h0]

set_option maxHeartbeats 4000000 in
set_option maxRecDepth 100000 in
theorem put_no (t p s d : Int) (A : Option Addr) (c : Nat) (l : List Int) (w : World) (h : fits t p s d = false) :
    Calls Tryd.prog 9 #[.agg #[.int .i64 t, .int .i64 p, .int .i64 s, .int .i64 d, .slice A l.length c]] w fun e w' => e = .returned (.tuple #[.slice none 0 0, .int .i64 1]) ∧ Below w.heap.size w w' := by
  have hu24 := Tryd.underlying24
  have hn : ¬ (0 ≤ t ∧ t ≤ 255 ∧ 0 ≤ p ∧ p ≤ 255 ∧ 0 ≤ s ∧ s ≤ 4294967295 ∧ 0 ≤ d ∧ d ≤ 4294967295) := of_decide_eq_false h
  clear h
  by_cases h1 : t < 0
  · clear hn
    go_enter Tryd.func9, Tryd.ntmps9
    go_wp2
    go_ret2
    exact ⟨rfl, by repeat (first | exact Below.refl _ _ | apply below_alloc | apply pw_below_drewN | apply below_drew1)⟩
  · have g1 := h1
    by_cases h2 : t > 255
    · clear hn
      go_enter Tryd.func9, Tryd.ntmps9
      go_wp2
      go_ret2
      exact ⟨rfl, by repeat (first | exact Below.refl _ _ | apply below_alloc | apply pw_below_drewN | apply below_drew1)⟩
    · have g2 := h2
      by_cases h3 : p < 0
      · clear hn
        go_enter Tryd.func9, Tryd.ntmps9
        go_wp2
        go_ret2
        exact ⟨rfl, by repeat (first | exact Below.refl _ _ | apply below_alloc | apply pw_below_drewN | apply below_drew1)⟩
      · have g3 := h3
        by_cases h4 : p > 255
        · clear hn
          go_enter Tryd.func9, Tryd.ntmps9
          go_wp2
          go_ret2
          exact ⟨rfl, by repeat (first | exact Below.refl _ _ | apply below_alloc | apply pw_below_drewN | apply below_drew1)⟩
        · have g4 := h4
          by_cases h5 : 0 ≤ s ∧ s ≤ 4294967295
          · have HS := Aside0.mk (right_true s h5.1 h5.2)
            have HD := Aside0.mk (right_false d (by omega))
            clear hn h5 g1 g2 g3 g4
            go_enter Tryd.func9, Tryd.ntmps9
            go_wp2_with (first | (go_at_call 15; (with_reducible refine (addr_Right.calls s true _ HS.out).mono ?_); rintro e w' ⟨rfl, ⟨nd, rfl⟩⟩) | (go_at_call 15; (with_reducible refine (addr_Right.calls d false _ HD.out).mono ?_); rintro e w' ⟨rfl, ⟨nd, rfl⟩⟩))
            go_ret2
            exact ⟨rfl, by repeat (first | exact Below.refl _ _ | apply below_alloc | apply pw_below_drewN | apply below_drew1)⟩
          · have HS := Aside0.mk (right_false s h5)
            clear hn h5 g1 g2 g3 g4
            go_enter Tryd.func9, Tryd.ntmps9
            go_wp2_with (first | (go_at_call 15; (with_reducible refine (addr_Right.calls s false _ HS.out).mono ?_); rintro e w' ⟨rfl, ⟨nd, rfl⟩⟩))
            go_ret2
            exact ⟨rfl, by repeat (first | exact Below.refl _ _ | apply below_alloc | apply pw_below_drewN | apply below_drew1)⟩

set_option maxHeartbeats 4000000 in
set_option maxRecDepth 100000 in
theorem put_long (t p s d : Int) (A : Option Addr) (c : Nat) (l : List Int) (w : World) (h : fits t p s d = true) (hl : (l.length : Int) > 1024) :
    Calls Tryd.prog 9 #[.agg #[.int .i64 t, .int .i64 p, .int .i64 s, .int .i64 d, .slice A l.length c]] w fun e w' => e = .returned (.tuple #[.slice none 0 0, .int .i64 6]) ∧ Below w.heap.size w w' := by
  have hu24 := Tryd.underlying24
  have hn := of_decide_eq_true h
  clear h
  have h1 : ¬ t < 0 := by omega
  have h2 : ¬ t > 255 := by omega
  have h3 : ¬ p < 0 := by omega
  have h4 : ¬ p > 255 := by omega
  have hl2 : 1024 < l.length := by omega
  have HS := Aside0.mk (right_true s (by omega) (by omega))
  have HD := Aside0.mk (right_true d (by omega) (by omega))
  clear hn
  go_enter Tryd.func9, Tryd.ntmps9
  go_wp2_with (first | (go_at_call 15; (with_reducible refine (addr_Right.calls s true _ HS.out).mono ?_); rintro e w' ⟨rfl, ⟨nd, rfl⟩⟩) | (go_at_call 15; (with_reducible refine (addr_Right.calls d true _ HD.out).mono ?_); rintro e w' ⟨rfl, ⟨nd, rfl⟩⟩))
  go_ret2
  exact ⟨rfl, by repeat (first | exact Below.refl _ _ | apply below_alloc | apply pw_below_drewN | apply below_drew1)⟩

end Go.Proofs.YtdocfafokfajeaaDoor.PIp
