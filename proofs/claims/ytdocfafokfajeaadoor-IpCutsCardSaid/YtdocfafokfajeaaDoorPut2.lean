/- ip.Put at a datagram that is right: its bytes. -/
import Derived.Test.YtdocfafokfajeaaDoorPut1
import Derived.RegionTactic
namespace Go.Proofs.YtdocfafokfajeaaDoor.PIp
open Go.RowKit Go.Proofs.YtdocfafokfajeaaDoorW.PrintWords Go.Proofs.YtdocfafokfajeaaDoorW.PrintLast Go.Proofs.YtdocfafokfajeaaDoorW.PrintMore
open Go.Proofs.YtdocfafokfajeaaDoor.Inet
set_option linter.unusedVariables false
set_option linter.unusedSimpArgs false

theorem ip_put_at (k : Nat) (u : Value) (l0 : List Int) (a1 a2 a3 : Int) (r : List Int) (n : Nat) (w0 w : World) (hn : w0.heap.size = n) (hB : Below n w0 w) (ho : Kd.R (Kd.int .u8) 5 w n (fun _ => True) u l0) (h : ip_put.f k l0 a1 a2 a3 = some r) :
    Calls Tryd.prog 16 #[u, .int .i64 a1, .int .i64 a2, .int .i64 a3] w fun e w' => e = .returned (.tuple #[]) ∧ Kd.R (Kd.int .u8) 5 w' n (fun _ => True) u r ∧ Below n w0 w' := by
  subst hn
  exact (ip_put.calls k (fun _ => True) u l0 a1 a2 a3 r w0 w hB ho h).mono fun e w' ⟨he, hr, hb, _⟩ => ⟨he, Kd.R_mono hr (fun _ _ => trivial), hb⟩

theorem sum_at (k : Nat) (A0 : Option Addr) (c0 n : Nat) (l0 : List Int) (r : Int) (w : World) (hn : n = l0.length) (hr0 : Kd.C (Kd.int .u8) w A0 l0.length l0) (hc0 : l0.length ≤ c0) (h : sum_Inet.f k l0 = some r) :
    Calls Tryd.prog 17 #[.slice A0 n c0] w fun e w' => e = .returned (.int .i64 r) ∧ Drawn0 w w' := by
  subst hn
  exact sum_Inet.calls k A0 c0 l0 r w hr0 hc0 h

/-- What the boxed datagram's cells hold, later on. -/
theorem box_cells (t p s d : Int) (A : Option Addr) (n c : Nat) (w W : World) (hB : Below (w.heap.size + 1) (w.alloc (.cells #[.int .i64 t, .int .i64 p, .int .i64 s, .int .i64 d, .slice A n c] 24)) W) :
    W.cell? ⟨w.heap.size, 0, none⟩ = some (.int .i64 t) ∧ W.cell? ⟨w.heap.size, 1, none⟩ = some (.int .i64 p) ∧ W.cell? ⟨w.heap.size, 2, none⟩ = some (.int .i64 s) ∧ W.cell? ⟨w.heap.size, 3, none⟩ = some (.int .i64 d) ∧ W.cell? ⟨w.heap.size, 4, none⟩ = some (.slice A n c) :=
  ⟨(hB.cell (p := ⟨w.heap.size, 0, none⟩) (by simp)).trans (by simp), (hB.cell (p := ⟨w.heap.size, 1, none⟩) (by simp)).trans (by simp), (hB.cell (p := ⟨w.heap.size, 2, none⟩) (by simp)).trans (by simp), (hB.cell (p := ⟨w.heap.size, 3, none⟩) (by simp)).trans (by simp), (hB.cell (p := ⟨w.heap.size, 4, none⟩) (by simp)).trans (by simp)⟩

theorem below_box (t p s d : Int) (A : Option Addr) (n c : Nat) (w W : World) (hB : Below (w.heap.size + 1) (w.alloc (.cells #[.int .i64 t, .int .i64 p, .int .i64 s, .int .i64 d, .slice A n c] 24)) W) : Below w.heap.size w W :=
  ((Below.refl _ _).alloc (Nat.le_refl _) _).trans (hB.mono (by omega))

set_option maxHeartbeats 4000000 in
set_option maxRecDepth 100000 in
theorem put_yes (t p s d : Int) (A : Option Addr) (c : Nat) (l : List Int) (w : World) (h : fits t p s d = true) (hl : ¬ (l.length : Int) > 1024) (hr0 : Kd.C (Kd.int .u8) w A l.length l) (hc0 : l.length ≤ c) :
    Calls Tryd.prog 9 #[.agg #[.int .i64 t, .int .i64 p, .int .i64 s, .int .i64 d, .slice A l.length c]] w fun e w' => ∃ v0_ : Value, e = .returned (.tuple #[v0_, .int .i64 0]) ∧ Kd.R (Kd.int .u8) 5 w' w.heap.size (fun _ => True) v0_ (head t p s d l.length (headSum t p s d l.length) ++ l) ∧ Below w.heap.size w w' := by
  have hu24 := Tryd.underlying24
  have hn := of_decide_eq_true h
  clear h
  have h1 : ¬ t < 0 := by omega
  have h2 : ¬ t > 255 := by omega
  have h3 : ¬ p < 0 := by omega
  have h4 : ¬ p > 255 := by omega
  have hl2 : ¬ 1024 < l.length := by omega
  have HS := Aside0.mk (right_true s (by omega) (by omega))
  have HD := Aside0.mk (right_true d (by omega) (by omega))
  have HR0 := Aside0.mk hr0
  have HC0 := Aside0.mk hc0
  clear hn hr0 hc0
  go_enter Tryd.func9, Tryd.ntmps9
  go_upto_region 6 with (first | (go_at_call 15; (with_reducible refine (addr_Right.calls s true _ HS.out).mono ?_); rintro e w' ⟨rfl, ⟨nd, rfl⟩⟩) | (go_at_call 15; (with_reducible refine (addr_Right.calls d true _ HD.out).mono ?_); rintro e w' ⟨rfl, ⟨nd, rfl⟩⟩) | ((with_reducible refine gate_dst (N := 45) rfl ?_); refine R_make_cap (w0 := w.alloc (.cells #[.int .i64 t, .int .i64 p, .int .i64 s, .int .i64 d, .slice A l.length c] 24)) (w.heap.size + 1) 5 rfl 22 _ _ rfl 20 (20 + l.length) 20 (20 + (l.length : Int)) rfl (by omega) rfl rfl (by omega) Tryd.underlying22 info5 (by omega) ?cb ?cs (w.heap.size + 1) (by simp) ?_; (case cb => exact (by repeat (first | exact Below.refl _ _ | apply pw_below_drewN | apply below_drew1))); (case cs => simp); intro w1 ho hb; have HO := Aside0.mk ho; have HB := Aside0.mk hb; clear ho hb))
  have f0 : w1.cell? ⟨w.heap.size, 0, none⟩ = some (.int .i64 t) := (HB.out.cell (p := ⟨w.heap.size, 0, none⟩) (by simp)).trans (by simp)
  have f1 : w1.cell? ⟨w.heap.size, 1, none⟩ = some (.int .i64 p) := (HB.out.cell (p := ⟨w.heap.size, 1, none⟩) (by simp)).trans (by simp)
  have g0 : w1.cell? ⟨w.heap.size + 1, 0, none⟩ = some (.int .u8 (rdOf 0 (List.replicate 20 (0 : Int)) 0)) := (Kd.R_celln 0 HO.out 0 (by decide) (by decide)).1
  have z0 : w1.frozen? ⟨w.heap.size + 1, 0, none⟩ = false := (Kd.R_celln 0 HO.out 0 (by decide) (by decide)).2
  have g8 : w1.cell? ⟨w.heap.size + 1, 8, none⟩ = some (.int .u8 (rdOf 0 (List.replicate 20 (0 : Int)) 8)) := (Kd.R_celln 0 HO.out 8 (by decide) (by decide)).1
  have z8 : w1.frozen? ⟨w.heap.size + 1, 8, none⟩ = false := (Kd.R_celln 0 HO.out 8 (by decide) (by decide)).2
  have g9 : w1.cell? ⟨w.heap.size + 1, 9, none⟩ = some (.int .u8 (rdOf 0 (List.replicate 20 (0 : Int)) 9)) := (Kd.R_celln 0 HO.out 9 (by decide) (by decide)).1
  have z9 : w1.frozen? ⟨w.heap.size + 1, 9, none⟩ = false := (Kd.R_celln 0 HO.out 9 (by decide) (by decide)).2
  go_cut [5] (fun v5 wc => v5 = .bool false ∧ Aside0 (Kd.R (Kd.int .u8) 5 wc (w.heap.size + 1) (fun _ => True) (.slice (some ⟨w.heap.size + 1, 0, none⟩) 20 (20 + l.length)) ((((List.replicate 20 0).set 0 69).set 8 t).set 9 p)) ∧ Aside0 (Below (w.heap.size + 1) (w.alloc (.cells #[.int .i64 t, .int .i64 p, .int .i64 s, .int .i64 d, .slice A l.length c] 24)) wc))
  case first =>
    go_region
    all_goals (go_wp2_with fail; go_meet)
    case rel =>
      refine ⟨rfl, ⟨?_⟩, ⟨?_⟩⟩
      · exact Kd.R_drew (Kd.R_putg (Kd.R_putg (Kd.R_putg HO.out 0 69).1 8 t).1 9 p).1
      · exact ((((HB.out.setCell (by simp) _).setCell (by simp) _).setCell (by simp) _)).drew
  case rest =>
    obtain ⟨rfl, HO, HB⟩ := hcut
    clear f0 f1 g0 z0 g8 z8 g9 z9
    obtain ⟨L1, hL1⟩ : ∃ x, x = (((List.replicate 20 (0 : Int)).set 0 69).set 8 t).set 9 p := ⟨_, rfl⟩
    rw [← hL1] at HO
    have k1 : L1.length = 20 := by rw [hL1]; simp
    obtain ⟨L2, hL2⟩ : ∃ x, x = (L1.set 2 ((20 + (l.length : Int)) / 256 % 256)).set (2 + 1) ((20 + (l.length : Int)) % 256) := ⟨_, rfl⟩
    have k2 : L2.length = 20 := by rw [hL2]; simpa using k1
    have E2 := Aside0.mk (show ip_put.f 3 L1 2 2 (20 + (l.length : Int)) = some L2 from by rw [hL2]; exact put2 L1 2 _ (by omega) (by omega))
    obtain ⟨L3, hL3⟩ : ∃ x, x = (((L2.set 12 (s / 16777216 % 256)).set (12 + 1) (s / 65536 % 256)).set (12 + 2) (s / 256 % 256)).set (12 + 3) (s % 256) := ⟨_, rfl⟩
    have k3 : L3.length = 20 := by rw [hL3]; simpa using k2
    have E3 := Aside0.mk (show ip_put.f 5 L2 12 4 s = some L3 from by rw [hL3]; exact put4 L2 12 _ (by omega) (by omega))
    obtain ⟨L4, hL4⟩ : ∃ x, x = (((L3.set 16 (d / 16777216 % 256)).set (16 + 1) (d / 65536 % 256)).set (16 + 2) (d / 256 % 256)).set (16 + 3) (d % 256) := ⟨_, rfl⟩
    have k4 : L4.length = 20 := by rw [hL4]; simpa using k3
    have E4 := Aside0.mk (show ip_put.f 5 L3 16 4 d = some L4 from by rw [hL4]; exact put4 L3 16 _ (by omega) (by omega))
    have hh : L4 = head t p s d l.length 0 := by
      rw [hL4, hL3, hL2, hL1]
      simp [head, List.replicate]
    have hbH : Bytes L4 := by
      rw [hh]
      exact head_bytes t p s d l.length 0 h1 h2 h3 h4
    have E5 := Aside0.mk (show sum_Inet.f 30 L4 = some (headSum t p s d l.length) from by
      rw [inet L4 hbH (by omega) 30 (by omega), hh]
      rfl)
    obtain ⟨q, hq⟩ : ∃ q, q = headSum t p s d l.length := ⟨_, rfl⟩
    rw [← hq] at E5
    obtain ⟨L5, hL5⟩ : ∃ x, x = (L4.set 10 (q / 256 % 256)).set (10 + 1) (q % 256) := ⟨_, rfl⟩
    have k5 : L5.length = 20 := by rw [hL5]; simpa using k4
    have E6 := Aside0.mk (show ip_put.f 3 L4 10 2 q = some L5 from by rw [hL5]; exact put2 L4 10 _ (by omega) (by omega))
    have hh5 : L5 = head t p s d l.length q := by
      rw [hL5, hh]
      simp [head]
    have HH := Aside0.mk (show L5 ++ l = head t p s d l.length (headSum t p s d l.length) ++ l from by rw [hh5, hq])
    have K4 := Aside0.mk k4
    have K5 := Aside0.mk k5
    clear hL1 hL2 hL3 hL4 hL5 hh hh5 hbH hq k1 k2 k3 k4 k5
    obtain ⟨-, -, q2, q3, q4⟩ := box_cells t p s d A l.length c w wc HB.out
    go_wp2_with (first | (go_at_call 16; (with_reducible refine (ip_put_at 3 (.slice (some ⟨w.heap.size + 1, 0, none⟩) 20 (20 + l.length)) L1 2 2 (20 + (l.length : Int)) L2 (w.heap.size + 1) (w.alloc (.cells #[.int .i64 t, .int .i64 p, .int .i64 s, .int .i64 d, .slice A l.length c] 24)) _ (by simp) HB.out HO.out E2.out).mono ?_); rintro e w' ⟨rfl, ho, hb⟩; clear HB HO; have HO := Aside0.mk ho; have HB := Aside0.mk hb; clear ho; obtain ⟨-, -, q2, q3, q4⟩ := box_cells t p s d A l.length c w w' hb; clear hb) | (go_at_call 16; (with_reducible refine (ip_put_at 5 (.slice (some ⟨w.heap.size + 1, 0, none⟩) 20 (20 + l.length)) L2 12 4 s L3 (w.heap.size + 1) (w.alloc (.cells #[.int .i64 t, .int .i64 p, .int .i64 s, .int .i64 d, .slice A l.length c] 24)) _ (by simp) HB.out HO.out E3.out).mono ?_); rintro e w' ⟨rfl, ho, hb⟩; clear HB HO; have HO := Aside0.mk ho; have HB := Aside0.mk hb; clear ho; obtain ⟨-, -, q2, q3, q4⟩ := box_cells t p s d A l.length c w w' hb; clear hb) | (go_at_call 16; (with_reducible refine (ip_put_at 5 (.slice (some ⟨w.heap.size + 1, 0, none⟩) 20 (20 + l.length)) L3 16 4 d L4 (w.heap.size + 1) (w.alloc (.cells #[.int .i64 t, .int .i64 p, .int .i64 s, .int .i64 d, .slice A l.length c] 24)) _ (by simp) HB.out HO.out E4.out).mono ?_); rintro e w' ⟨rfl, ho, hb⟩; clear HB HO; have HO := Aside0.mk ho; have HB := Aside0.mk hb; clear ho; obtain ⟨-, -, q2, q3, q4⟩ := box_cells t p s d A l.length c w w' hb; clear hb) | (go_at_call 17; (with_reducible refine (sum_at 30 (some ⟨w.heap.size + 1, 0, none⟩) (20 + l.length) 20 L4 q _ K4.out.symm (Kd.R_reads' HO.out).2.2 (by have := K4.out; omega) E5.out).mono ?_); rintro e w' ⟨rfl, ⟨nd, rfl⟩⟩; have ho := Kd.R_drewN HO.out nd; have hb := pw_below_drewN HB.out nd; clear HO HB; have HO := Aside0.mk ho; have HB := Aside0.mk hb; clear ho; obtain ⟨-, -, q2, q3, q4⟩ := box_cells t p s d A l.length c w _ hb; clear hb) | (go_at_call 16; (with_reducible refine (ip_put_at 3 (.slice (some ⟨w.heap.size + 1, 0, none⟩) 20 (20 + l.length)) L4 10 2 q L5 (w.heap.size + 1) (w.alloc (.cells #[.int .i64 t, .int .i64 p, .int .i64 s, .int .i64 d, .slice A l.length c] 24)) _ (by simp) HB.out HO.out E6.out).mono ?_); rintro e w' ⟨rfl, ho, hb⟩; clear HB HO; have HO := Aside0.mk ho; have HB := Aside0.mk hb; clear ho; obtain ⟨-, -, q2, q3, q4⟩ := box_cells t p s d A l.length c w w' hb; clear hb) | ((with_reducible refine gate_builtin (b := .append) (xs := #[.tmp 76, .tmp 78]) rfl ?_); at_builtin; refine Kd.R_append_rows (Kd.int .u8) (w0 := (w.alloc (.cells #[.int .i64 t, .int .i64 p, .int .i64 s, .int .i64 d, .slice A l.length c] 24))) (w.heap.size + 1) rfl (.tmp 76) (.tmp 78) 22 5 (.int .u8 0) 1 rfl Tryd.underlying22 info5 rfl (by decide) (by omega) (.slice (some ⟨w.heap.size + 1, 0, none⟩) 20 (20 + l.length)) L5 l _ _ _ (fun _ => True) (fun _ => False) rfl rfl ?aO ?aR (fun _ _ h => h) (fun _ h => h.elim) ?aF ?aB ?aS ?aL ?_; (case aR => exact (Kd.C_below HR0.out (below_box t p s d A l.length c w _ HB.out))); (case aB => exact HB.out); (case aF => exact (fun _ _ => trivial)); (case aO => exact HO.out); (case aS => have := HB.out.size; simp at this; omega); (case aL => have := K5.out; omega); intro v108 w9 ho hb hg hat; clear HB HO; have HO := Aside0.mk ho; have HB := Aside0.mk hb; clear ho hb hg hat))
    go_ret2
    refine ⟨v108, rfl, ?_, below_box t p s d A l.length c w _ HB.out⟩
    rw [← HH.out]
    exact Kd.R_lower HO.out (by omega)

/-- ip.Put, whole. -/
theorem ip_Put.calls (a0_0 : Int) (a0_1 : Int) (a0_2 : Int) (a0_3 : Int) (A0_4 : Option Addr) (c0_4 : Nat) (l0_4 : List Int) (r1 : List Int) (r2 : Int) (w : World) (hr0_4 : Kd.C (Kd.int .u8) w A0_4 l0_4.length l0_4) (hc0_4 : l0_4.length ≤ c0_4) (h : ip_Put.f a0_0 a0_1 a0_2 a0_3 l0_4 = some (r1, r2)) :
    Calls Tryd.prog 9 #[.agg #[.int .i64 a0_0, .int .i64 a0_1, .int .i64 a0_2, .int .i64 a0_3, .slice A0_4 l0_4.length c0_4]] w fun e w' => ∃ v0_ : Value, e = .returned (.tuple #[v0_, .int .i64 r2]) ∧ Kd.R (Kd.int .u8) 5 w' w.heap.size (fun _ => True) v0_ r1 ∧ Below w.heap.size w w' := by
  unfold ip_Put.f at h
  by_cases hf : fits a0_0 a0_1 a0_2 a0_3 = true
  · rw [if_pos hf] at h
    by_cases hl : (l0_4.length : Int) > 1024
    · rw [if_pos hl] at h
      injection h with h
      injection h with h1 h2
      subst h1 h2
      exact (put_long _ _ _ _ _ _ _ _ hf hl).mono fun e w' ⟨he, hb⟩ => ⟨_, he, Kd.R_nil _ _ _ _ _, hb⟩
    · rw [if_neg hl] at h
      injection h with h
      injection h with h1 h2
      subst h1 h2
      exact put_yes _ _ _ _ _ _ _ _ hf hl hr0_4 hc0_4
  · rw [if_neg hf] at h
    injection h with h
    injection h with h1 h2
    subst h1 h2
    exact (put_no _ _ _ _ _ _ _ _ (Bool.eq_false_iff.mpr hf)).mono fun e w' ⟨he, hb⟩ => ⟨_, he, Kd.R_nil _ _ _ _ _, hb⟩

end Go.Proofs.YtdocfafokfajeaaDoor.PIp
