/- The walk of IpCuts: a datagram that is told, one that isn't, and arguments that are too great. -/
import Derived.Test.YtdocfafokfajeaaDoorLaw1
import Derived.RegionTactic
namespace Go.Proofs.YtdocfafokfajeaaDoor.PIp
open Go.RowKit Go.Proofs.YtdocfafokfajeaaDoorW.PrintWords Go.Proofs.YtdocfafokfajeaaDoorW.PrintLast Go.Proofs.YtdocfafokfajeaaDoorW.PrintMore
open Go.Proofs.YtdocfafokfajeaaDoor.Inet
set_option linter.unusedVariables false
set_option linter.unusedSimpArgs false

theorem get_at (A0 : Option Addr) (c0 n : Nat) (l0 : List Int) (r1 r2 r3 r4 : Int) (r5 : List Int) (r6 : Int) (w : World) (hn : n = l0.length) (hg : Handle w) (hr0 : Kd.C (Kd.int .u8) w A0 l0.length l0) (hc0 : l0.length ≤ c0) (h : ip_Get.f l0 = some (r1, r2, r3, r4, r5, r6)) :
    Calls Tryd.prog 11 #[.slice A0 n c0] w fun e w' => ∃ v4_ : Value, e = .returned (.tuple #[.agg #[.int .i64 r1, .int .i64 r2, .int .i64 r3, .int .i64 r4, v4_], .int .i64 r6]) ∧ Kd.R (Kd.int .u8) 5 w' w.heap.size (fun _ => True) v4_ r5 ∧ Below w.heap.size w w' := by
  subst hn
  exact ip_Get.calls A0 c0 l0 r1 r2 r3 r4 r5 r6 w hg hr0 hc0 h

theorem put_long_at (t p s d : Int) (A : Option Addr) (n c : Nat) (w : World) (h : fits t p s d = true) (hl : n > 1024) :
    Calls Tryd.prog 9 #[.agg #[.int .i64 t, .int .i64 p, .int .i64 s, .int .i64 d, .slice A n c]] w fun e w' => e = .returned (.tuple #[.slice none 0 0, .int .i64 6]) ∧ Below w.heap.size w w' := by
  have hn : (List.replicate n (0 : Int)).length = n := List.length_replicate
  have k := put_long t p s d A c (List.replicate n (0 : Int)) w h (by rw [hn]; omega)
  rw [hn] at k
  exact k

theorem bx {w W W2 : World} {o : Obj} (h1 : Below (w.heap.size + 1) (w.alloc o) W) (h2 : Below W.heap.size W W2) : Below (w.heap.size + 1) (w.alloc o) W2 :=
  h1.trans (h2.mono (by have := h1.size; simp at this; omega))

set_option maxHeartbeats 4000000 in
set_option maxRecDepth 100000 in
theorem cuts_yes (t p s d : Int) (A : Option Addr) (c : Nat) (l : List Int) (k : Nat) (A2 : Option Addr) (c2 : Nat) (m B : List Int) (x1 x2 x3 x4 : Int) (x5 : List Int) (c1 y1 y2 y3 y4 : Int) (y5 : List Int) (w : World)
    (hr0 : Kd.C (Kd.int .u8) w A l.length l) (hc0 : l.length ≤ c) (hr2 : Kd.C (Kd.int .u8) w A2 m.length m) (hc2 : m.length ≤ c2) (hg : Handle w)
    (hf : fits t p s d = true) (hl : ¬ 1024 < l.length) (hm0 : m.length ≠ 0) (hm : ¬ 500 < m.length) (hk : k < 65536) (j i : Nat) (e2 : Int.tmod (k : Int) (B.length : Int) = (j : Int)) (hj : j < B.length) (e3 : Int.tmod (k : Int) 100 = (i : Int)) (hi : i < 100) (hP : ip_Put.f t p s d l = some (B, 0)) (hBl : 20 ≤ B.length) (hBu : B.length ≤ 2000)
    (hG1 : ip_Get.f (B.take j) = some (x1, x2, x3, x4, x5, c1)) (hc1 : c1 ≠ 0) (hG2 : ip_Get.f (B ++ m) = some (y1, y2, y3, y4, y5, 3)) :
    Calls Tryd.prog 7 #[.agg #[.int .i64 t, .int .i64 p, .int .i64 s, .int .i64 d, .slice A l.length c], .int .u16 k, .slice A2 m.length c2] w fun e w' => e = .returned (.bool true) ∧ Below w.heap.size w w' := by
  have hu24 := Tryd.underlying24
  have b1 : decide (1024 < (l.length : Int)) = false := decide_eq_false (by omega)
  have b2 : ((m.length : Int) == 0) = false := beq_eq_false_iff_ne.mpr (by omega)
  have b3 : decide (500 < (m.length : Int)) = false := decide_eq_false (by omega)
  have b4 : decide ((B.length : Int) < 20) = false := decide_eq_false (by omega)
  have b5 : (c1 != 0) = true := bne_iff_ne.mpr hc1
  have e1 : wrap64 (k : Int) = (k : Int) := by unfold wrap64; omega
  have e4 : wrap64 (1025 + (i : Int)) = ((1025 + i : Nat) : Int) := by unfold wrap64; omega
  have TL : (B.take j).length = j := by rw [List.length_take]; omega
  have HR0 := Aside0.mk hr0
  have HC0 := Aside0.mk hc0
  have HR2 := Aside0.mk hr2
  have HC2 := Aside0.mk hc2
  have HG := Aside0.mk hg
  have HF := Aside0.mk hf
  have HP := Aside0.mk hP
  have HG1 := Aside0.mk hG1
  have HG2 := Aside0.mk hG2
  clear hr0 hc0 hr2 hc2 hg hf hP hG1 hG2
  go_enter Tryd.func7, Tryd.ntmps7
  go_wp2_with (first
    | (go_at_call 9; (with_reducible refine (ip_Put.calls t p s d A c l B 0 _ ?g1 HC0.out HP.out).mono ?_); (case g1 => exact Kd.C_below HR0.out (by repeat (first | exact Below.refl _ _ | apply below_alloc | apply pw_below_drewN | apply below_drew1))); rintro e W0 ⟨v, rfl, ho, hb⟩; rw [show (w.alloc (.cells #[.int .i64 t, .int .i64 p, .int .i64 s, .int .i64 d, .slice A l.length c] 24)).heap.size = w.heap.size + 1 from by simp] at ho hb; obtain ⟨Ab, cb, rfl⟩ := Kd.R_slice ho; have hjc : j ≤ cb := (by have := (Kd.R_reads' ho).2.1; omega); have HO := Aside0.mk ho; have HB := Aside0.mk hb; clear ho hb)
    | (go_at_call 13; (with_reducible refine (plenumlaw1_Num.same _ _ _ rfl).mono ?_); rintro e w' ⟨rfl, rfl⟩)
    | (go_at_call 11; (with_reducible refine (get_at Ab cb j (B.take j) x1 x2 x3 x4 x5 c1 _ ?g0 ?g1 ?g2 ?g3 HG1.out).mono ?_); (case g0 => exact TL.symm); (case g1 => exact HG.out.below (below_box t p s d A l.length c w _ HB.out)); (case g2 => exact C_take (Kd.R_reads' HO.out).2.2 _ (by omega)); (case g3 => have := (Kd.R_reads' HO.out).2.1; omega); rintro e W1 ⟨v1, rfl, ho, hb⟩; obtain ⟨A1, k1, rfl⟩ := Kd.R_slice ho; have HO1 := Aside0.mk (Kd.R_below HO.out hb); have HB1 := Aside0.mk (bx HB.out hb); clear ho hb)
    | ((with_reducible refine gate_dst (N := 61) rfl ?_); refine Kd.R_lit (Kd.int .u8) _ 5 ?hg (N := 61) ?hd (xs := ([] : List Int)) (inner := []) (ok := fun _ => True) (okp := fun _ => True) ?hr ?hp (fun _ hk => hk) trivial (Below.refl _ _) (Nat.le_refl _) (by simp) ?_; (case hd => rfl); (case hg => rfl); (case hr => first | (go_simp; done) | (go_simp; rfl)); (case hp => exact (Reps.none _ _)); intro v61 W2 ho hb hg_ hnew_; clear hg_ hnew_; have HB2 := Aside0.mk (bx (bx HB1.out (by repeat (first | exact Below.refl _ _ | apply below_alloc | apply pw_below_drewN | apply below_drew1 | refine below_set ?_ (Nat.le_refl _)))) hb); have HO2 := Aside0.mk (Kd.R_below (Kd.R_below HO1.out (by repeat (first | exact Below.refl _ _ | apply below_alloc | apply pw_below_drewN | apply below_drew1 | refine below_set ?_ (Nat.le_refl _)))) hb); have HL2 := Aside0.mk (Kd.R_lower ho (show w.heap.size + 1 ≤ _ from by have := (bx HB1.out (by repeat (first | exact Below.refl _ _ | apply below_alloc | apply pw_below_drewN | apply below_drew1 | refine below_set ?_ (Nat.le_refl _)))).size; simp at this ⊢; omega)); clear ho hb)
    | ((with_reducible refine gate_builtin (b := .append) (xs := #[.tmp 61, .tmp 62]) rfl ?_); at_builtin; refine Kd.R_append_rows (Kd.int .u8) (w0 := w.alloc (.cells #[.int .i64 t, .int .i64 p, .int .i64 s, .int .i64 d, .slice A l.length c] 24)) (w.heap.size + 1) rfl (.tmp 61) (.tmp 62) 22 5 (.int .u8 0) 1 rfl Tryd.underlying22 info5 rfl (by decide) (by omega) v61 [] B _ _ _ (fun _ => True) (fun _ => False) rfl rfl ?aO ?aR (fun _ _ h => h) (fun _ h => h.elim) ?aF ?aB ?aS ?aL ?_; (case aR => exact (Kd.R_reads' HO2.out).2.2); (case aB => exact HB2.out); (case aF => exact (fun _ _ => trivial)); (case aO => exact HL2.out); (case aS => have := HB2.out.size; simp at this; omega); (case aL => simp; omega); intro v63 W3 ho hb hg hat; rw [List.nil_append] at ho; have HO3 := Aside0.mk ho; have HB3 := Aside0.mk hb; clear ho hb hg hat)
    | ((with_reducible refine gate_builtin (b := .append) (xs := #[.tmp 64, .tmp 65]) rfl ?_); at_builtin; refine Kd.R_append_rows (Kd.int .u8) (w0 := w.alloc (.cells #[.int .i64 t, .int .i64 p, .int .i64 s, .int .i64 d, .slice A l.length c] 24)) (w.heap.size + 1) rfl (.tmp 64) (.tmp 65) 22 5 (.int .u8 0) 1 rfl Tryd.underlying22 info5 rfl (by decide) (by omega) v63 B m _ _ _ (fun _ => True) (fun _ => False) rfl rfl ?aO ?aR (fun _ _ h => h) (fun _ h => h.elim) ?aF ?aB ?aS ?aL ?_; (case aR => exact Kd.C_below HR2.out (below_box t p s d A l.length c w _ HB3.out)); (case aB => exact HB3.out); (case aF => exact (fun _ _ => trivial)); (case aO => exact HO3.out); (case aS => have := HB3.out.size; simp at this; omega); (case aL => omega); intro v66 W4 ho hb hg hat; obtain ⟨A4, k4, rfl⟩ := Kd.R_slice ho; have HO4 := Aside0.mk ho; have HB4 := Aside0.mk hb; clear ho hb hg hat)
    | (go_at_call 11; (with_reducible refine (get_at A4 k4 (B.length + m.length) (B ++ m) y1 y2 y3 y4 y5 3 _ (by simp) ?g1 ?g2 ?g3 HG2.out).mono ?_); (case g1 => exact HG.out.below (below_box t p s d A l.length c w _ HB4.out)); (case g2 => exact (Kd.R_reads' HO4.out).2.2); (case g3 => exact (Kd.R_reads' HO4.out).2.1); rintro e W5 ⟨v5, rfl, ho, hb⟩; obtain ⟨A5, k5, rfl⟩ := Kd.R_slice ho; have HB5 := Aside0.mk (bx HB4.out hb); clear ho hb)
    | ((with_reducible refine gate_dst (N := 76) rfl ?_); refine R_make_cap (w0 := w.alloc (.cells #[.int .i64 t, .int .i64 p, .int .i64 s, .int .i64 d, .slice A l.length c] 24)) (w.heap.size + 1) 5 rfl 22 _ _ rfl (1025 + i) (1025 + i) ((1025 + i : Nat) : Int) ((1025 + i : Nat) : Int) rfl rfl rfl rfl (Nat.le_refl _) Tryd.underlying22 info5 (by omega) ?cb ?cs _ rfl ?_; (case cb => exact bx HB5.out (by repeat (first | exact Below.refl _ _ | apply below_alloc | apply pw_below_drewN | apply below_drew1 | refine below_set ?_ (Nat.le_refl _)))); (case cs => have := (bx HB5.out (by repeat (first | exact Below.refl _ _ | apply below_alloc | apply pw_below_drewN | apply below_drew1 | refine below_set ?_ (Nat.le_refl _)))).size; simp at this ⊢; omega); intro W6 ho hb; obtain ⟨q0, q1, q2, q3, q4⟩ := box_cells t p s d A l.length c w W6 hb; have z4 : W6.frozen? ⟨w.heap.size, 4, none⟩ = false := (hb.frozen (p := ⟨w.heap.size, 4, none⟩) (by simp)).trans (by simp); have HB6 := Aside0.mk (below_set (j := 4) (v := .slice (some ⟨W5.heap.size + 1, 0, none⟩) (1025 + i) (1025 + i)) (below_box t p s d A l.length c w W6 hb) (Nat.le_refl _)); clear ho hb)
    | (go_at_call 9; (with_reducible refine (put_long_at t p s d _ (1025 + i) (1025 + i) _ HF.out (by omega)).mono ?_); rintro e W7 ⟨rfl, hb⟩; have HB7 := Aside0.mk (below_step HB6.out hb); clear hb q0 q1 q2 q3 q4 z4)
    | (go_at_call 8; (with_reducible refine (plenumlaw3_awake.calls true _ awake_true).mono ?_); rintro e W8 ⟨rfl, hb⟩; have HB8 := Aside0.mk (below_step HB7.out hb); clear hb))
  go_ret
  exact ⟨rfl, HB8.out⟩

set_option maxHeartbeats 4000000 in
set_option maxRecDepth 100000 in
theorem cuts_not (t p s d : Int) (A : Option Addr) (c : Nat) (l : List Int) (k : Int) (A2 : Option Addr) (c2 : Nat) (m : List Int) (w : World)
    (hr0 : Kd.C (Kd.int .u8) w A l.length l) (hc0 : l.length ≤ c) (hl : ¬ 1024 < l.length) (hm0 : m.length ≠ 0) (hm : ¬ 500 < m.length) (hP : ip_Put.f t p s d l = some ([], 1)) :
    Calls Tryd.prog 7 #[.agg #[.int .i64 t, .int .i64 p, .int .i64 s, .int .i64 d, .slice A l.length c], .int .u16 k, .slice A2 m.length c2] w fun e w' => e = .returned (.bool true) ∧ Below w.heap.size w w' := by
  have hu24 := Tryd.underlying24
  have b1 : decide (1024 < (l.length : Int)) = false := decide_eq_false (by omega)
  have b2 : ((m.length : Int) == 0) = false := beq_eq_false_iff_ne.mpr (by omega)
  have b3 : decide (500 < (m.length : Int)) = false := decide_eq_false (by omega)
  have HR0 := Aside0.mk hr0
  have HC0 := Aside0.mk hc0
  have HP := Aside0.mk hP
  clear hr0 hc0 hP
  go_enter Tryd.func7, Tryd.ntmps7
  go_wp2_with (first
    | (go_at_call 9; (with_reducible refine (ip_Put.calls t p s d A c l [] 1 _ ?g1 HC0.out HP.out).mono ?_); (case g1 => exact Kd.C_below HR0.out (by repeat (first | exact Below.refl _ _ | apply below_alloc | apply pw_below_drewN | apply below_drew1))); rintro e W0 ⟨v, rfl, ho, hb⟩; rw [show (w.alloc (.cells #[.int .i64 t, .int .i64 p, .int .i64 s, .int .i64 d, .slice A l.length c] 24)).heap.size = w.heap.size + 1 from by simp] at ho hb; obtain ⟨Ab, cb, rfl⟩ := Kd.R_slice ho; have HB := Aside0.mk (below_box t p s d A l.length c w W0 hb); clear ho hb)
    | (go_at_call 13; (with_reducible refine (plenumlaw1_Num.same _ _ _ rfl).mono ?_); rintro e w' ⟨rfl, rfl⟩)
    | (go_at_call 8; (with_reducible refine (plenumlaw3_awake.calls true _ awake_true).mono ?_); rintro e W8 ⟨rfl, hb⟩; have HB8 := Aside0.mk (below_step HB.out hb); clear hb))
  go_ret
  exact ⟨rfl, HB8.out⟩

set_option maxHeartbeats 4000000 in
set_option maxRecDepth 100000 in
theorem cuts_awake (t p s d : Int) (A : Option Addr) (c : Nat) (l : List Int) (k : Int) (A2 : Option Addr) (c2 : Nat) (m : List Int) (w : World) (h : 1024 < l.length ∨ m.length = 0 ∨ 500 < m.length) :
    Calls Tryd.prog 7 #[.agg #[.int .i64 t, .int .i64 p, .int .i64 s, .int .i64 d, .slice A l.length c], .int .u16 k, .slice A2 m.length c2] w fun e w' => e = .returned (.bool true) ∧ Below w.heap.size w w' := by
  have hu24 := Tryd.underlying24
  have HB := fun W hb => below_box t p s d A l.length c w W hb
  have HB := Aside0.mk HB
  by_cases h1 : 1024 < l.length
  · have b1 : decide (1024 < (l.length : Int)) = true := decide_eq_true (by omega)
    clear h
    go_enter Tryd.func7, Tryd.ntmps7
    go_wp2_with (go_at_call 8; (with_reducible refine (plenumlaw3_awake.calls true _ awake_true).mono ?_); rintro e W8 ⟨rfl, hb⟩; have HB8 := Aside0.mk (HB.out _ (bx (Below.refl _ _) hb)); clear hb)
    go_ret
    exact ⟨rfl, HB8.out⟩
  · have b1 : decide (1024 < (l.length : Int)) = false := decide_eq_false (by omega)
    by_cases h2 : m.length = 0
    · clear h
      rw [h2]
      go_enter Tryd.func7, Tryd.ntmps7
      go_wp2_with (go_at_call 8; (with_reducible refine (plenumlaw3_awake.calls true _ awake_true).mono ?_); rintro e W8 ⟨rfl, hb⟩; have HB8 := Aside0.mk (HB.out _ (bx (Below.refl _ _) hb)); clear hb)
      go_ret
      exact ⟨rfl, HB8.out⟩
    · have b2 : ((m.length : Int) == 0) = false := beq_eq_false_iff_ne.mpr (by omega)
      have b3 : decide (500 < (m.length : Int)) = true := decide_eq_true (by omega)
      clear h
      go_enter Tryd.func7, Tryd.ntmps7
      go_wp2_with (go_at_call 8; (with_reducible refine (plenumlaw3_awake.calls true _ awake_true).mono ?_); rintro e W8 ⟨rfl, hb⟩; have HB8 := Aside0.mk (HB.out _ (bx (Below.refl _ _) hb)); clear hb)
      go_ret
      exact ⟨rfl, HB8.out⟩

end Go.Proofs.YtdocfafokfajeaaDoor.PIp
