/- ip.read: the errors. Conditions: none beside what the slice's cells hold. -/
import Derived.Test.YtdocfafokfajeaaDoorTold
import Derived.Test.YtdocfafokfajeaaDoorGet0
import Derived.Test.YtdocfafokfajeaaDoorPut2

namespace Go.Proofs.YtdocfafokfajeaaDoor.PIp
open Go.RowKit Go.Proofs.YtdocfafokfajeaaDoorW.PrintWords Go.Proofs.YtdocfafokfajeaaDoorW.PrintLast Go.Proofs.YtdocfafokfajeaaDoorW.PrintMore
open Go.Proofs.YtdocfafokfajeaaDoor.Inet
set_option linter.unusedVariables false
set_option linter.unusedSimpArgs false

/-- What a call of ip.read leaves that tells the error c. -/
def Told (c : Int) (w : World) (e : Ending) (w' : World) : Prop :=
  ∃ bw bf : Nat, e = .returned (.tuple #[.agg #[.int .i64 0, .int .i64 0, .int .i64 0, .int .i64 0, .slice none 0 0], .iface 62 (.pointer (some ⟨bw, 0, none⟩))]) ∧ w'.cell? ⟨bw, 1, none⟩ = some (.iface 57 (.pointer (some ⟨bf, 0, none⟩))) ∧ w'.cell? ⟨bf, 0, none⟩ = some (.int .i64 c) ∧ Below w.heap.size w w'

set_option maxHeartbeats 4000000 in
set_option maxRecDepth 100000 in
theorem read_short (A : Option Addr) (c : Nat) (l : List Int) (w : World) (h : l.length < 20) :
    Calls Tryd.prog 21 #[.slice A l.length c] w (Told 2 w) := by
  have hu24 := Tryd.underlying24
  go_enter Tryd.func21, Tryd.ntmps21
  go_wp2_with (go_at_call 27; refine (bad_any _ _ _).mono ?_; rintro e w' ⟨rfl, rfl⟩)
  refine bodyPost_ret (v := .tuple #[.agg #[.int .i64 0, .int .i64 0, .int .i64 0, .int .i64 0, .slice none 0 0], .iface 62 (.pointer (some ⟨w.heap.size + 1 + 1, 0, none⟩))]) (by simp [results, Tryd.results21, go_sem]) rfl ⟨w.heap.size + 1 + 1, w.heap.size + 1, rfl, ?_, ?_, by repeat (first | exact Below.refl _ _ | apply below_alloc | apply pw_below_drewN | apply below_drew1 | refine Below.setCell ?_ (by simp) _)⟩
  · simp [go_sem]
  · simp [go_sem]

/-- The form that the bytes of a datagram have. -/
def Form (l : List Int) : Prop := rd l 0 = 69 ∧ rd l 1 = 0 ∧ be4 l 4 = 0 ∧ be2 l 2 = (l.length : Int) ∧ ¬ be2 l 2 > 1044

set_option maxHeartbeats 4000000 in
set_option maxRecDepth 100000 in
theorem read_form (A : Option Addr) (c : Nat) (l : List Int) (w : World) (hr0 : Kd.C (Kd.int .u8) w A l.length l) (hc0 : l.length ≤ c) (hb : Bytes l) (h20 : ¬ l.length < 20) (hf : ¬ Form l) :
    Calls Tryd.prog 21 #[.slice A l.length c] w (Told 3 w) := by
  have hu24 := Tryd.underlying24
  obtain ⟨x, e0, _⟩ := Kd.at_int hr0 0 (by omega) (by omega)
  subst e0
  have hxl : x.block < w.heap.size := by
    obtain ⟨y, e, h⟩ := Kd.at_int hr0 0 (by omega) (by omega)
    obtain rfl := Option.some.inj e
    have ha : x.add (Int.toNat 0) = x := by simp [Addr.add]
    rw [ha] at h
    exact cell_lt h
  have g0 : (w.alloc (.cells #[.int .i64 0, .int .i64 0, .int .i64 0, .int .i64 0, .slice none 0 0] 24)).cell? x = some (.int .u8 (rd l 0)) := by
    obtain ⟨y, e, h⟩ := Kd.at_int hr0 0 (by omega) (by omega)
    obtain rfl := Option.some.inj e
    rw [World.cell?_alloc_lt _ _ x hxl]
    have ha : x.add (Int.toNat 0) = x := by simp [Addr.add]
    rw [ha] at h
    exact h
  have g1 : (w.alloc (.cells #[.int .i64 0, .int .i64 0, .int .i64 0, .int .i64 0, .slice none 0 0] 24)).cell? ⟨x.block, x.off + 1, none⟩ = some (.int .u8 (rd l 1)) := by
    obtain ⟨y, e, h⟩ := Kd.at_int hr0 1 (by omega) (by omega)
    obtain rfl := Option.some.inj e
    rw [World.cell?_alloc_lt _ _ ⟨x.block, x.off + 1, none⟩ hxl]
    exact h
  have HR0 := Aside0.mk hr0
  have HC0 := Aside0.mk hc0
  have HBY := Aside0.mk hb
  have HL := Aside0.mk h20
  clear hr0 hc0 hb hxl
  by_cases c1 : rd l 0 = 69
  · have b1 : (rd l 0 == 69) = true := beq_iff_eq.mpr c1
    have b1' : (rd l 0 != 69) = false := bne_eq_false_iff_eq.mpr c1
    by_cases c2 : rd l 1 = 0
    · have b2 : (rd l 1 == 0) = true := beq_iff_eq.mpr c2
      have b2' : (rd l 1 != 0) = false := bne_eq_false_iff_eq.mpr c2
      by_cases c3 : be4 l 4 = 0
      · have b3 : (be4 l 4 == 0) = true := beq_iff_eq.mpr c3
        have b3' : (be4 l 4 != 0) = false := bne_eq_false_iff_eq.mpr c3
        by_cases c4 : be2 l 2 = (l.length : Int)
        · have b4 : (be2 l 2 == (l.length : Int)) = true := beq_iff_eq.mpr c4
          have b4' : (be2 l 2 != (l.length : Int)) = false := bne_eq_false_iff_eq.mpr c4
          have b5 : decide (1044 < be2 l 2) = true := decide_eq_true (by
            by_cases h : 1044 < be2 l 2
            · exact h
            · exact absurd ⟨c1, c2, c3, c4, h⟩ hf)
          clear c1 c2 c3 c4 hf
          go_enter Tryd.func21, Tryd.ntmps21
          go_wp2_with (first | (go_at_call 27; refine (bad_any _ _ _).mono ?_; rintro e w' ⟨rfl, rfl⟩) | (go_at_call 28; (with_reducible refine (get_2_2 (some x) c l _ ?g1 HC0.out (by have := HL.out; omega) HBY.out).mono ?_); (case g1 => exact Kd.C_below HR0.out (by repeat (first | exact Below.refl _ _ | apply below_alloc | apply pw_below_drewN | apply below_drew1))); rintro e w' ⟨rfl, rfl⟩) | (go_at_call 28; (with_reducible refine (get_4_4 (some x) c l _ ?g1 HC0.out (by have := HL.out; omega) HBY.out).mono ?_); (case g1 => exact Kd.C_below HR0.out (by repeat (first | exact Below.refl _ _ | apply below_alloc | apply pw_below_drewN | apply below_drew1))); rintro e w' ⟨rfl, rfl⟩))
          refine bodyPost_ret (v := .tuple #[.agg #[.int .i64 0, .int .i64 0, .int .i64 0, .int .i64 0, .slice none 0 0], .iface 62 (.pointer (some ⟨w.heap.size + 1 + 1, 0, none⟩))]) (by simp [results, Tryd.results21, go_sem]) rfl ⟨w.heap.size + 1 + 1, w.heap.size + 1, rfl, ?_, ?_, by repeat (first | exact Below.refl _ _ | apply below_alloc | apply pw_below_drewN | apply below_drew1 | refine Below.setCell ?_ (by simp) _)⟩
          · simp [go_sem]
          · simp [go_sem]
        · have b4 : (be2 l 2 == (l.length : Int)) = false := beq_eq_false_iff_ne.mpr c4
          have b4' : (be2 l 2 != (l.length : Int)) = true := bne_iff_ne.mpr c4
          clear c1 c2 c3 c4 hf
          go_enter Tryd.func21, Tryd.ntmps21
          go_wp2_with (first | (go_at_call 27; refine (bad_any _ _ _).mono ?_; rintro e w' ⟨rfl, rfl⟩) | (go_at_call 28; (with_reducible refine (get_2_2 (some x) c l _ ?g1 HC0.out (by have := HL.out; omega) HBY.out).mono ?_); (case g1 => exact Kd.C_below HR0.out (by repeat (first | exact Below.refl _ _ | apply below_alloc | apply pw_below_drewN | apply below_drew1))); rintro e w' ⟨rfl, rfl⟩) | (go_at_call 28; (with_reducible refine (get_4_4 (some x) c l _ ?g1 HC0.out (by have := HL.out; omega) HBY.out).mono ?_); (case g1 => exact Kd.C_below HR0.out (by repeat (first | exact Below.refl _ _ | apply below_alloc | apply pw_below_drewN | apply below_drew1))); rintro e w' ⟨rfl, rfl⟩))
          refine bodyPost_ret (v := .tuple #[.agg #[.int .i64 0, .int .i64 0, .int .i64 0, .int .i64 0, .slice none 0 0], .iface 62 (.pointer (some ⟨w.heap.size + 1 + 1, 0, none⟩))]) (by simp [results, Tryd.results21, go_sem]) rfl ⟨w.heap.size + 1 + 1, w.heap.size + 1, rfl, ?_, ?_, by repeat (first | exact Below.refl _ _ | apply below_alloc | apply pw_below_drewN | apply below_drew1 | refine Below.setCell ?_ (by simp) _)⟩
          · simp [go_sem]
          · simp [go_sem]
      · have b3 : (be4 l 4 == 0) = false := beq_eq_false_iff_ne.mpr c3
        have b3' : (be4 l 4 != 0) = true := bne_iff_ne.mpr c3
        clear c1 c2 c3 hf
        go_enter Tryd.func21, Tryd.ntmps21
        go_wp2_with (first | (go_at_call 27; refine (bad_any _ _ _).mono ?_; rintro e w' ⟨rfl, rfl⟩) | (go_at_call 28; (with_reducible refine (get_2_2 (some x) c l _ ?g1 HC0.out (by have := HL.out; omega) HBY.out).mono ?_); (case g1 => exact Kd.C_below HR0.out (by repeat (first | exact Below.refl _ _ | apply below_alloc | apply pw_below_drewN | apply below_drew1))); rintro e w' ⟨rfl, rfl⟩) | (go_at_call 28; (with_reducible refine (get_4_4 (some x) c l _ ?g1 HC0.out (by have := HL.out; omega) HBY.out).mono ?_); (case g1 => exact Kd.C_below HR0.out (by repeat (first | exact Below.refl _ _ | apply below_alloc | apply pw_below_drewN | apply below_drew1))); rintro e w' ⟨rfl, rfl⟩))
        refine bodyPost_ret (v := .tuple #[.agg #[.int .i64 0, .int .i64 0, .int .i64 0, .int .i64 0, .slice none 0 0], .iface 62 (.pointer (some ⟨w.heap.size + 1 + 1, 0, none⟩))]) (by simp [results, Tryd.results21, go_sem]) rfl ⟨w.heap.size + 1 + 1, w.heap.size + 1, rfl, ?_, ?_, by repeat (first | exact Below.refl _ _ | apply below_alloc | apply pw_below_drewN | apply below_drew1 | refine Below.setCell ?_ (by simp) _)⟩
        · simp [go_sem]
        · simp [go_sem]
    · have b2 : (rd l 1 == 0) = false := beq_eq_false_iff_ne.mpr c2
      have b2' : (rd l 1 != 0) = true := bne_iff_ne.mpr c2
      clear c1 c2 hf
      go_enter Tryd.func21, Tryd.ntmps21
      go_wp2_with (first | (go_at_call 27; refine (bad_any _ _ _).mono ?_; rintro e w' ⟨rfl, rfl⟩) | (go_at_call 28; (with_reducible refine (get_2_2 (some x) c l _ ?g1 HC0.out (by have := HL.out; omega) HBY.out).mono ?_); (case g1 => exact Kd.C_below HR0.out (by repeat (first | exact Below.refl _ _ | apply below_alloc | apply pw_below_drewN | apply below_drew1))); rintro e w' ⟨rfl, rfl⟩) | (go_at_call 28; (with_reducible refine (get_4_4 (some x) c l _ ?g1 HC0.out (by have := HL.out; omega) HBY.out).mono ?_); (case g1 => exact Kd.C_below HR0.out (by repeat (first | exact Below.refl _ _ | apply below_alloc | apply pw_below_drewN | apply below_drew1))); rintro e w' ⟨rfl, rfl⟩))
      refine bodyPost_ret (v := .tuple #[.agg #[.int .i64 0, .int .i64 0, .int .i64 0, .int .i64 0, .slice none 0 0], .iface 62 (.pointer (some ⟨w.heap.size + 1 + 1, 0, none⟩))]) (by simp [results, Tryd.results21, go_sem]) rfl ⟨w.heap.size + 1 + 1, w.heap.size + 1, rfl, ?_, ?_, by repeat (first | exact Below.refl _ _ | apply below_alloc | apply pw_below_drewN | apply below_drew1 | refine Below.setCell ?_ (by simp) _)⟩
      · simp [go_sem]
      · simp [go_sem]
  · have b1 : (rd l 0 == 69) = false := beq_eq_false_iff_ne.mpr c1
    have b1' : (rd l 0 != 69) = true := bne_iff_ne.mpr c1
    clear c1 hf
    go_enter Tryd.func21, Tryd.ntmps21
    go_wp2_with (first | (go_at_call 27; refine (bad_any _ _ _).mono ?_; rintro e w' ⟨rfl, rfl⟩) | (go_at_call 28; (with_reducible refine (get_2_2 (some x) c l _ ?g1 HC0.out (by have := HL.out; omega) HBY.out).mono ?_); (case g1 => exact Kd.C_below HR0.out (by repeat (first | exact Below.refl _ _ | apply below_alloc | apply pw_below_drewN | apply below_drew1))); rintro e w' ⟨rfl, rfl⟩) | (go_at_call 28; (with_reducible refine (get_4_4 (some x) c l _ ?g1 HC0.out (by have := HL.out; omega) HBY.out).mono ?_); (case g1 => exact Kd.C_below HR0.out (by repeat (first | exact Below.refl _ _ | apply below_alloc | apply pw_below_drewN | apply below_drew1))); rintro e w' ⟨rfl, rfl⟩))
    refine bodyPost_ret (v := .tuple #[.agg #[.int .i64 0, .int .i64 0, .int .i64 0, .int .i64 0, .slice none 0 0], .iface 62 (.pointer (some ⟨w.heap.size + 1 + 1, 0, none⟩))]) (by simp [results, Tryd.results21, go_sem]) rfl ⟨w.heap.size + 1 + 1, w.heap.size + 1, rfl, ?_, ?_, by repeat (first | exact Below.refl _ _ | apply below_alloc | apply pw_below_drewN | apply below_drew1 | refine Below.setCell ?_ (by simp) _)⟩
    · simp [go_sem]
    · simp [go_sem]

end Go.Proofs.YtdocfafokfajeaaDoor.PIp
