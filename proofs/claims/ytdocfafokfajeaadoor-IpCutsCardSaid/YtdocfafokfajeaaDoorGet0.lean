/- ip.get at the places at which ip.read asks: so many bytes as a number, the high one first. -/
import Derived.Test.YtdocfafokfajeaaDoorLeaf0
import Derived.Test.YtdocfafokfajeaaDoorInet
namespace Go.Proofs.YtdocfafokfajeaaDoor.PIp
open Go.RowKit Go.Proofs.YtdocfafokfajeaaDoorW.PrintWords Go.Proofs.YtdocfafokfajeaaDoorW.PrintLast Go.Proofs.YtdocfafokfajeaaDoorW.PrintMore
open Go.Proofs.YtdocfafokfajeaaDoor.Inet
set_option linter.unusedVariables false
set_option linter.unusedSimpArgs false

theorem ret_i64 {a b : Int} (h : a = b) : Ending.returned (.int .i64 a) = .returned (.int .i64 b) := by rw [h]

set_option maxHeartbeats 1000000 in
theorem get_2_2 (A0 : Option Addr) (c0 : Nat) (l0 : List Int) (w : World) (hr0 : Kd.C (Kd.int .u8) w A0 l0.length l0) (hc0 : l0.length ≤ c0) (hl : 4 ≤ l0.length) (hb : Bytes l0) :
    Calls Tryd.prog 28 #[.slice A0 l0.length c0, .int .i64 2, .int .i64 2] w fun e w' => e = .returned (.int .i64 (be2 l0 2)) ∧ w' = w := by
  obtain ⟨x, e1, h0⟩ := Kd.at_int hr0 2 (by omega) (by omega)
  subst e1
  have g0 : w.cell? ⟨x.block, x.off + 2, none⟩ = some (.int .u8 (rd l0 2)) := by
    obtain ⟨y, e, h⟩ := Kd.at_int hr0 2 (by omega) (by omega)
    obtain rfl := Option.some.inj e
    exact h
  have g1 : w.cell? ⟨x.block, x.off + 2 + 1, none⟩ = some (.int .u8 (rd l0 3)) := by
    obtain ⟨y, e, h⟩ := Kd.at_int hr0 3 (by omega) (by omega)
    obtain rfl := Option.some.inj e
    exact h
  have HBY := Aside0.mk hb
  clear hr0 h0 hb
  go_enter Tryd.func28, Tryd.ntmps28
  go_wp2
  refine wp_loop_rounds 3 ?_
  rw [rounds_succ]
  go_wp2
  rw [rounds_succ]
  go_wp2
  rw [rounds_succ]
  go_wp2
  go_ret
  exact ⟨ret_i64 ((or2 HBY.out _ _).trans rfl), rfl⟩

set_option maxHeartbeats 1000000 in
theorem get_4_4 (A0 : Option Addr) (c0 : Nat) (l0 : List Int) (w : World) (hr0 : Kd.C (Kd.int .u8) w A0 l0.length l0) (hc0 : l0.length ≤ c0) (hl : 8 ≤ l0.length) (hb : Bytes l0) :
    Calls Tryd.prog 28 #[.slice A0 l0.length c0, .int .i64 4, .int .i64 4] w fun e w' => e = .returned (.int .i64 (be4 l0 4)) ∧ w' = w := by
  obtain ⟨x, e1, h0⟩ := Kd.at_int hr0 4 (by omega) (by omega)
  subst e1
  have g0 : w.cell? ⟨x.block, x.off + 4, none⟩ = some (.int .u8 (rd l0 4)) := by
    obtain ⟨y, e, h⟩ := Kd.at_int hr0 4 (by omega) (by omega)
    obtain rfl := Option.some.inj e
    exact h
  have g1 : w.cell? ⟨x.block, x.off + 4 + 1, none⟩ = some (.int .u8 (rd l0 5)) := by
    obtain ⟨y, e, h⟩ := Kd.at_int hr0 5 (by omega) (by omega)
    obtain rfl := Option.some.inj e
    exact h
  have g2 : w.cell? ⟨x.block, x.off + 4 + 2, none⟩ = some (.int .u8 (rd l0 6)) := by
    obtain ⟨y, e, h⟩ := Kd.at_int hr0 6 (by omega) (by omega)
    obtain rfl := Option.some.inj e
    exact h
  have g3 : w.cell? ⟨x.block, x.off + 4 + 3, none⟩ = some (.int .u8 (rd l0 7)) := by
    obtain ⟨y, e, h⟩ := Kd.at_int hr0 7 (by omega) (by omega)
    obtain rfl := Option.some.inj e
    exact h
  have HBY := Aside0.mk hb
  clear hr0 h0 hb
  go_enter Tryd.func28, Tryd.ntmps28
  go_wp2
  refine wp_loop_rounds 5 ?_
  rw [rounds_succ]
  go_wp2
  rw [rounds_succ]
  go_wp2
  rw [rounds_succ]
  go_wp2
  rw [rounds_succ]
  go_wp2
  rw [rounds_succ]
  go_wp2
  go_ret
  exact ⟨ret_i64 ((or4 HBY.out _ _ _ _).trans rfl), rfl⟩

set_option maxHeartbeats 1000000 in
theorem get_10_2 (A0 : Option Addr) (c0 : Nat) (l0 : List Int) (w : World) (hr0 : Kd.C (Kd.int .u8) w A0 l0.length l0) (hc0 : l0.length ≤ c0) (hl : 12 ≤ l0.length) (hb : Bytes l0) :
    Calls Tryd.prog 28 #[.slice A0 l0.length c0, .int .i64 10, .int .i64 2] w fun e w' => e = .returned (.int .i64 (be2 l0 10)) ∧ w' = w := by
  obtain ⟨x, e1, h0⟩ := Kd.at_int hr0 10 (by omega) (by omega)
  subst e1
  have g0 : w.cell? ⟨x.block, x.off + 10, none⟩ = some (.int .u8 (rd l0 10)) := by
    obtain ⟨y, e, h⟩ := Kd.at_int hr0 10 (by omega) (by omega)
    obtain rfl := Option.some.inj e
    exact h
  have g1 : w.cell? ⟨x.block, x.off + 10 + 1, none⟩ = some (.int .u8 (rd l0 11)) := by
    obtain ⟨y, e, h⟩ := Kd.at_int hr0 11 (by omega) (by omega)
    obtain rfl := Option.some.inj e
    exact h
  have HBY := Aside0.mk hb
  clear hr0 h0 hb
  go_enter Tryd.func28, Tryd.ntmps28
  go_wp2
  refine wp_loop_rounds 3 ?_
  rw [rounds_succ]
  go_wp2
  rw [rounds_succ]
  go_wp2
  rw [rounds_succ]
  go_wp2
  go_ret
  exact ⟨ret_i64 ((or2 HBY.out _ _).trans rfl), rfl⟩

set_option maxHeartbeats 1000000 in
theorem get_12_4 (A0 : Option Addr) (c0 : Nat) (l0 : List Int) (w : World) (hr0 : Kd.C (Kd.int .u8) w A0 l0.length l0) (hc0 : l0.length ≤ c0) (hl : 16 ≤ l0.length) (hb : Bytes l0) :
    Calls Tryd.prog 28 #[.slice A0 l0.length c0, .int .i64 12, .int .i64 4] w fun e w' => e = .returned (.int .i64 (be4 l0 12)) ∧ w' = w := by
  obtain ⟨x, e1, h0⟩ := Kd.at_int hr0 12 (by omega) (by omega)
  subst e1
  have g0 : w.cell? ⟨x.block, x.off + 12, none⟩ = some (.int .u8 (rd l0 12)) := by
    obtain ⟨y, e, h⟩ := Kd.at_int hr0 12 (by omega) (by omega)
    obtain rfl := Option.some.inj e
    exact h
  have g1 : w.cell? ⟨x.block, x.off + 12 + 1, none⟩ = some (.int .u8 (rd l0 13)) := by
    obtain ⟨y, e, h⟩ := Kd.at_int hr0 13 (by omega) (by omega)
    obtain rfl := Option.some.inj e
    exact h
  have g2 : w.cell? ⟨x.block, x.off + 12 + 2, none⟩ = some (.int .u8 (rd l0 14)) := by
    obtain ⟨y, e, h⟩ := Kd.at_int hr0 14 (by omega) (by omega)
    obtain rfl := Option.some.inj e
    exact h
  have g3 : w.cell? ⟨x.block, x.off + 12 + 3, none⟩ = some (.int .u8 (rd l0 15)) := by
    obtain ⟨y, e, h⟩ := Kd.at_int hr0 15 (by omega) (by omega)
    obtain rfl := Option.some.inj e
    exact h
  have HBY := Aside0.mk hb
  clear hr0 h0 hb
  go_enter Tryd.func28, Tryd.ntmps28
  go_wp2
  refine wp_loop_rounds 5 ?_
  rw [rounds_succ]
  go_wp2
  rw [rounds_succ]
  go_wp2
  rw [rounds_succ]
  go_wp2
  rw [rounds_succ]
  go_wp2
  rw [rounds_succ]
  go_wp2
  go_ret
  exact ⟨ret_i64 ((or4 HBY.out _ _ _ _).trans rfl), rfl⟩

set_option maxHeartbeats 1000000 in
theorem get_16_4 (A0 : Option Addr) (c0 : Nat) (l0 : List Int) (w : World) (hr0 : Kd.C (Kd.int .u8) w A0 l0.length l0) (hc0 : l0.length ≤ c0) (hl : 20 ≤ l0.length) (hb : Bytes l0) :
    Calls Tryd.prog 28 #[.slice A0 l0.length c0, .int .i64 16, .int .i64 4] w fun e w' => e = .returned (.int .i64 (be4 l0 16)) ∧ w' = w := by
  obtain ⟨x, e1, h0⟩ := Kd.at_int hr0 16 (by omega) (by omega)
  subst e1
  have g0 : w.cell? ⟨x.block, x.off + 16, none⟩ = some (.int .u8 (rd l0 16)) := by
    obtain ⟨y, e, h⟩ := Kd.at_int hr0 16 (by omega) (by omega)
    obtain rfl := Option.some.inj e
    exact h
  have g1 : w.cell? ⟨x.block, x.off + 16 + 1, none⟩ = some (.int .u8 (rd l0 17)) := by
    obtain ⟨y, e, h⟩ := Kd.at_int hr0 17 (by omega) (by omega)
    obtain rfl := Option.some.inj e
    exact h
  have g2 : w.cell? ⟨x.block, x.off + 16 + 2, none⟩ = some (.int .u8 (rd l0 18)) := by
    obtain ⟨y, e, h⟩ := Kd.at_int hr0 18 (by omega) (by omega)
    obtain rfl := Option.some.inj e
    exact h
  have g3 : w.cell? ⟨x.block, x.off + 16 + 3, none⟩ = some (.int .u8 (rd l0 19)) := by
    obtain ⟨y, e, h⟩ := Kd.at_int hr0 19 (by omega) (by omega)
    obtain rfl := Option.some.inj e
    exact h
  have HBY := Aside0.mk hb
  clear hr0 h0 hb
  go_enter Tryd.func28, Tryd.ntmps28
  go_wp2
  refine wp_loop_rounds 5 ?_
  rw [rounds_succ]
  go_wp2
  rw [rounds_succ]
  go_wp2
  rw [rounds_succ]
  go_wp2
  rw [rounds_succ]
  go_wp2
  rw [rounds_succ]
  go_wp2
  go_ret
  exact ⟨ret_i64 ((or4 HBY.out _ _ _ _).trans rfl), rfl⟩

end Go.Proofs.YtdocfafokfajeaaDoor.PIp
