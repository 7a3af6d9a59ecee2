/- ip.Get: whatever the bytes, the datagram or an error's number as the closed form says. Conditions: the variable errors.errorType holds the handle of the type error. -/
import Derived.Test.YtdocfafokfajeaaDoorRead3
import Derived.Deep.RegionHeld3
namespace Go.Proofs.YtdocfafokfajeaaDoor.PIp
open Go.RowKit Go.Proofs.YtdocfafokfajeaaDoorW.PrintWords Go.Proofs.YtdocfafokfajeaaDoorW.PrintLast Go.Proofs.YtdocfafokfajeaaDoorW.PrintMore
open Go.Proofs.YtdocfafokfajeaaDoor.Inet
set_option linter.unusedVariables false
set_option linter.unusedSimpArgs false

/-- What a call of ip.read leaves: five parts, a row of bytes, and an error that is told as r. -/
def Left_ (xs : List Int) (a b cc d r : Int) (w : World) (e : Ending) (W : World) : Prop :=
  ∃ (Av : Option Addr) (nv cv : Nat) (errv : Value), e = .returned (.tuple #[.agg #[.int .i64 a, .int .i64 b, .int .i64 cc, .int .i64 d, .slice Av nv cv], errv]) ∧ Kd.R (Kd.int .u8) 5 W (w.heap.size + 1) (fun _ => True) (.slice Av nv cv) xs ∧ Below (w.heap.size + 1) (w.alloc zeroBlock) W ∧
    ∀ W', Below W.heap.size W W' → Calls Tryd.prog 22 #[errv] W' fun e w' => e = .returned (.int .i64 r) ∧ Below W'.heap.size W' w'

def Data5 (n : Nat) (a b cc d : Int) (v : Value) (w' : World) : Prop :=
  w'.cell? ⟨n, 0, none⟩ = some (.int .i64 a) ∧ w'.cell? ⟨n, 1, none⟩ = some (.int .i64 b) ∧ w'.cell? ⟨n, 2, none⟩ = some (.int .i64 cc) ∧ w'.cell? ⟨n, 3, none⟩ = some (.int .i64 d) ∧ w'.cell? ⟨n, 4, none⟩ = some v

theorem data5_below {n : Nat} {a b cc d : Int} {v : Value} {W w' : World} (h : Data5 n a b cc d v W) (hb : Below W.heap.size W w') : Data5 n a b cc d v w' :=
  ⟨(hb.cell (cell_lt h.1)).trans h.1, (hb.cell (cell_lt h.2.1)).trans h.2.1, (hb.cell (cell_lt h.2.2.1)).trans h.2.2.1, (hb.cell (cell_lt h.2.2.2.1)).trans h.2.2.2.1, (hb.cell (cell_lt h.2.2.2.2)).trans h.2.2.2.2⟩

set_option maxHeartbeats 4000000 in
set_option maxRecDepth 100000 in
theorem get_gen (A : Option Addr) (n c : Nat) (xs : List Int) (a b cc d r : Int) (w : World) (hread : Calls Tryd.prog 21 #[.slice A n c] (w.alloc zeroBlock) (Left_ xs a b cc d r w)) :
    Calls Tryd.prog 11 #[.slice A n c] w fun e w' => ∃ v : Value, e = .returned (.tuple #[.agg #[.int .i64 a, .int .i64 b, .int .i64 cc, .int .i64 d, v], .int .i64 r]) ∧ Kd.R (Kd.int .u8) 5 w' w.heap.size (fun _ => True) v xs ∧ Below w.heap.size w w' := by
  have hu24 := Tryd.underlying24
  have HREAD := Aside0.mk hread
  clear hread
  go_enter Tryd.func11, Tryd.ntmps11
  go_upto_region 2 with (go_at_call 21; refine HREAD.out.mono ?_; rintro e W ⟨Av, nv, cv, errv, rfl, hR, hB, hT⟩; have HR := Aside0.mk hR; have HB := Aside0.mk hB; have HT := Aside0.mk hT; obtain ⟨⟨y0, y1, y2, y3, y4⟩, yf⟩ := zero_cells w W hB; clear hR hB hT yf y0 y1 y2 y3 y4)
  have hD : Data5 W.heap.size a b cc d (.slice Av nv cv) (W.alloc (.cells #[.int .i64 a, .int .i64 b, .int .i64 cc, .int .i64 d, .slice Av nv cv] 24)) := ⟨by simp, by simp, by simp, by simp, by simp⟩
  have hW : Below W.heap.size W (W.alloc (.cells #[.int .i64 a, .int .i64 b, .int .i64 cc, .int .i64 d, .slice Av nv cv] 24)) := (Below.refl _ _).alloc (Nat.le_refl _) _
  have hne : w.heap.size ≠ W.heap.size := by have := size_after HB.out; omega
  have hlt : W.heap.size < (W.alloc (.cells #[.int .i64 a, .int .i64 b, .int .i64 cc, .int .i64 d, .slice Av nv cv] 24)).heap.size := by simp
  generalize W.alloc (.cells #[.int .i64 a, .int .i64 b, .int .i64 cc, .int .i64 d, .slice Av nv cv] 24) = W2 at hD hW hlt ⊢
  have hB2 : Below (w.heap.size + 1) (w.alloc zeroBlock) W2 := HB.out.trans (hW.mono (size_after HB.out))
  have HR2 := Aside0.mk (Kd.R_below HR.out hW)
  have HW := Aside0.mk hW
  have HLT := Aside0.mk hlt
  have HD := Aside0.mk hD
  have HB2 := Aside0.mk hB2
  obtain ⟨d0, d1, d2, d3, d4⟩ := hD
  clear hW hlt hB2
  go_region_held3 (fun w' => w'.cell? ⟨W.heap.size, 0, none⟩ = some (.int .i64 a) ∧ w'.cell? ⟨W.heap.size, 1, none⟩ = some (.int .i64 b) ∧ w'.cell? ⟨W.heap.size, 2, none⟩ = some (.int .i64 cc) ∧ w'.cell? ⟨W.heap.size, 3, none⟩ = some (.int .i64 d) ∧ w'.cell? ⟨W.heap.size, 4, none⟩ = some (.slice Av nv cv)) (first | (with_reducible exact ⟨e0, e1, e2, e3, e4⟩) | (with_reducible exact ⟨(far_cells hne.symm).trans e0, (far_cells hne.symm).trans e1, (far_cells hne.symm).trans e2, (far_cells hne.symm).trans e3, (far_cells hne.symm).trans e4⟩) | go_keep) (first | (go_at_call 22; refine (HT.out _ (HW.out.drew)).mono ?_; rintro e w' ⟨rfl, hb⟩; have hb' := (show Below W2.heap.size W2 w' from ((Below.refl W2.heap.size W2).drew).trans hb); obtain ⟨e0, e1, e2, e3, e4⟩ := data5_below HD.out hb'; obtain ⟨⟨y0, y1, y2, y3, y4⟩, yf⟩ := zero_cells w w' (HB2.out.trans (hb'.mono (size_after HB2.out))); have yf0 := yf 0; have yf1 := yf 1; have yf2 := yf 2; have yf3 := yf 3; have yf4 := yf 4; have HR3 := Aside0.mk (Kd.R_below HR2.out hb'); have HB3 := Aside0.mk (HB2.out.trans (hb'.mono (size_after HB2.out))); clear hb hb' yf))
  all_goals go_wp2
  all_goals refine bodyPost_ret (v := .tuple #[.agg #[.int .i64 a, .int .i64 b, .int .i64 cc, .int .i64 d, .slice Av nv cv], .int .i64 r]) (by simp [results, Tryd.results11, go_sem, y0, y1, y2, y3, y4]) rfl ⟨.slice Av nv cv, rfl, R_five HR3.out, below_five (below_zero HB3.out) (Nat.le_refl _)⟩

/-- ip.Get. -/
def ip_Get.f (l : List Int) : Option (Int × Int × Int × Int × List Int × Int) :=
  if l.all (fun x => decide (0 ≤ x ∧ x < 256)) = true then
    (if l.length < 20 then some (0, 0, 0, 0, [], 2) else
      if rd l 0 = 69 ∧ rd l 1 = 0 ∧ be4 l 4 = 0 ∧ be2 l 2 = (l.length : Int) ∧ ¬ be2 l 2 > 1044 then
        (if sumOf l = be2 l 10 then some (rd l 8, rd l 9, be4 l 12, be4 l 16, l.drop 20, 0) else some (0, 0, 0, 0, [], 4))
      else some (0, 0, 0, 0, [], 3))
  else none

theorem left_told {c : Int} {w W : World} {e : Ending} (hg : Handle w) (h : Told c (w.alloc zeroBlock) e W) : Left_ [] 0 0 0 0 c w e W := by
  obtain ⟨bw, bf, he, h1, h2, hb⟩ := h
  have hb' : Below (w.heap.size + 1) (w.alloc zeroBlock) W := hb.mono (by simp)
  refine ⟨none, 0, 0, .iface 62 (.pointer (some ⟨bw, 0, none⟩)), he, Kd.R_nil _ _ _ _ _, hb', fun W' hW => ?_⟩
  have hgW : Handle W := hg.below (below_zero hb')
  exact told_wrap bw bf c W' (hgW.below hW) ((hW.cell (cell_lt h1)).trans h1) ((hW.cell (cell_lt h2)).trans h2)

theorem ip_Get.calls (A0 : Option Addr) (c0 : Nat) (l0 : List Int) (r1 : Int) (r2 : Int) (r3 : Int) (r4 : Int) (r5 : List Int) (r6 : Int) (w : World) (hg : Handle w) (hr0 : Kd.C (Kd.int .u8) w A0 l0.length l0) (hc0 : l0.length ≤ c0) (h : ip_Get.f l0 = some (r1, r2, r3, r4, r5, r6)) :
    Calls Tryd.prog 11 #[.slice A0 l0.length c0] w fun e w' => ∃ v4_ : Value, e = .returned (.tuple #[.agg #[.int .i64 r1, .int .i64 r2, .int .i64 r3, .int .i64 r4, v4_], .int .i64 r6]) ∧ Kd.R (Kd.int .u8) 5 w' w.heap.size (fun _ => True) v4_ r5 ∧ Below w.heap.size w w' := by
  have hr1 : Kd.C (Kd.int .u8) (w.alloc zeroBlock) A0 l0.length l0 := Kd.C_below hr0 ((Below.refl _ _).alloc (Nat.le_refl _) _)
  unfold ip_Get.f at h
  by_cases hb : l0.all (fun x => decide (0 ≤ x ∧ x < 256)) = true
  · rw [if_pos hb] at h
    have hby : Bytes l0 := fun x hx => by simpa using List.all_eq_true.mp hb x hx
    by_cases h20 : l0.length < 20
    · rw [if_pos h20] at h
      simp only [Option.some.injEq, Prod.mk.injEq] at h
      obtain ⟨rfl, rfl, rfl, rfl, rfl, rfl⟩ := h
      exact get_gen A0 l0.length c0 [] 0 0 0 0 2 w ((read_short A0 c0 l0 _ h20).mono fun e W hT => left_told hg hT)
    · rw [if_neg h20] at h
      by_cases hf : rd l0 0 = 69 ∧ rd l0 1 = 0 ∧ be4 l0 4 = 0 ∧ be2 l0 2 = (l0.length : Int) ∧ ¬ be2 l0 2 > 1044
      · rw [if_pos hf] at h
        by_cases hs : sumOf l0 = be2 l0 10
        · rw [if_pos hs] at h
          simp only [Option.some.injEq, Prod.mk.injEq] at h
          obtain ⟨rfl, rfl, rfl, rfl, rfl, rfl⟩ := h
          refine get_gen A0 l0.length c0 (l0.drop 20) _ _ _ _ 0 w ((read_ok A0 c0 l0 _ hr1 hc0 hby h20 hf hs).mono fun e W hT => ?_)
          obtain ⟨v, rfl, hR, hB⟩ := hT
          obtain ⟨Av, cv, rfl⟩ := Kd.R_slice hR
          have hz : (w.alloc zeroBlock).heap.size = w.heap.size + 1 := by simp
          rw [hz] at hR hB
          exact ⟨Av, _, cv, .nilIface, rfl, hR, hB, fun W' hW => told_nil W'⟩
        · rw [if_neg hs] at h
          simp only [Option.some.injEq, Prod.mk.injEq] at h
          obtain ⟨rfl, rfl, rfl, rfl, rfl, rfl⟩ := h
          exact get_gen A0 l0.length c0 [] 0 0 0 0 4 w ((read_sum A0 c0 l0 _ hr1 hc0 hby h20 hf hs).mono fun e W hT => left_told hg hT)
      · rw [if_neg hf] at h
        simp only [Option.some.injEq, Prod.mk.injEq] at h
        obtain ⟨rfl, rfl, rfl, rfl, rfl, rfl⟩ := h
        exact get_gen A0 l0.length c0 [] 0 0 0 0 3 w ((read_form A0 c0 l0 _ hr1 hc0 hby h20 hf).mono fun e W hT => left_told hg hT)
  · rw [if_neg hb] at h
    cases h

end Go.Proofs.YtdocfafokfajeaaDoor.PIp
