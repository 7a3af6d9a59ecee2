/- ip.read at bytes of the right form: the error of another sum, or the datagram. Conditions: none beside what the slice's cells hold. -/
import Derived.Test.YtdocfafokfajeaaDoorRead1

namespace Go.Proofs.YtdocfafokfajeaaDoor.PIp
open Go.RowKit Go.Proofs.YtdocfafokfajeaaDoorW.PrintWords Go.Proofs.YtdocfafokfajeaaDoorW.PrintLast Go.Proofs.YtdocfafokfajeaaDoorW.PrintMore
open Go.Proofs.YtdocfafokfajeaaDoor.Inet
set_option linter.unusedVariables false
set_option linter.unusedSimpArgs false

theorem C_take {w : World} {A : Option Addr} {l : List Int} (h : Kd.C (Kd.int .u8) w A l.length l) (j : Nat) (hj : j ≤ l.length) : Kd.C (Kd.int .u8) w A (l.take j).length (l.take j) := by
  have hl : (l.take j).length = j := by rw [List.length_take]; omega
  have h2 := (Kd.reads_of_C (d := (0 : Int)) h).take_ j hj
  rw [hl]
  exact Kd.C_of_reads (d := (0 : Int)) (h1 := fun _ => rfl) h2

theorem clone_at (A0 : Option Addr) (c0 n : Nat) (l0 : List Int) (w : World) (hn : n = l0.length) (hr0 : Kd.C (Kd.int .u8) w A0 l0.length l0) (hl : l0.length < 140737488355328) :
    Calls Tryd.prog 29 #[.slice A0 n c0] w fun e w' => ∃ v0_ : Value, e = .returned v0_ ∧ Kd.R (Kd.int .u8) 5 w' w.heap.size (fun _ => True) v0_ l0 ∧ Below w.heap.size w w' := by
  subst hn
  exact clone_any A0 c0 l0 w hr0 hl

/-- The zero datagram's block. -/
def zeroBlock : Obj := .cells #[.int .i64 0, .int .i64 0, .int .i64 0, .int .i64 0, .slice none 0 0] 24

theorem zero_cells (w W : World) (hB : Below (w.heap.size + 1) (w.alloc zeroBlock) W) :
    (W.cell? ⟨w.heap.size, 0, none⟩ = some (.int .i64 0) ∧ W.cell? ⟨w.heap.size, 1, none⟩ = some (.int .i64 0) ∧ W.cell? ⟨w.heap.size, 2, none⟩ = some (.int .i64 0) ∧ W.cell? ⟨w.heap.size, 3, none⟩ = some (.int .i64 0) ∧ W.cell? ⟨w.heap.size, 4, none⟩ = some (.slice none 0 0)) ∧
    (∀ i, W.frozen? ⟨w.heap.size, i, none⟩ = false) :=
  ⟨⟨(hB.cell (p := ⟨w.heap.size, 0, none⟩) (by simp)).trans (by simp [zeroBlock]), (hB.cell (p := ⟨w.heap.size, 1, none⟩) (by simp)).trans (by simp [zeroBlock]), (hB.cell (p := ⟨w.heap.size, 2, none⟩) (by simp)).trans (by simp [zeroBlock]), (hB.cell (p := ⟨w.heap.size, 3, none⟩) (by simp)).trans (by simp [zeroBlock]), (hB.cell (p := ⟨w.heap.size, 4, none⟩) (by simp)).trans (by simp [zeroBlock])⟩,
   fun i => (hB.frozen (p := ⟨w.heap.size, i, none⟩) (by simp)).trans (by simp [zeroBlock])⟩

theorem below_zero {w W : World} (hB : Below (w.heap.size + 1) (w.alloc zeroBlock) W) : Below w.heap.size w W :=
  ((Below.refl _ _).alloc (Nat.le_refl _) _).trans (hB.mono (by omega))

theorem far_cells {W : World} {s b o : Nat} {v0 v1 v2 v3 v4 : Value} (h : b ≠ s) :
    (((((W.setCell ⟨s, 0, none⟩ v0).setCell ⟨s, 1, none⟩ v1).setCell ⟨s, 2, none⟩ v2).setCell ⟨s, 3, none⟩ v3).setCell ⟨s, 4, none⟩ v4).cell? ⟨b, o, none⟩ = W.cell? ⟨b, o, none⟩ := by
  have hne : ∀ i, (⟨s, i, none⟩ : Addr) ≠ ⟨b, o, none⟩ := fun i e => h (by injection e with e1; exact e1.symm)
  rw [World.cell?_setCell_other _ _ _ _ (hne 4), World.cell?_setCell_other _ _ _ _ (hne 3), World.cell?_setCell_other _ _ _ _ (hne 2), World.cell?_setCell_other _ _ _ _ (hne 1), World.cell?_setCell_other _ _ _ _ (hne 0)]

theorem below_five {w0 W : World} {n s : Nat} {v0 v1 v2 v3 v4 : Value} (hb : Below n w0 W) (h : n ≤ s) :
    Below n w0 (((((W.setCell ⟨s, 0, none⟩ v0).setCell ⟨s, 1, none⟩ v1).setCell ⟨s, 2, none⟩ v2).setCell ⟨s, 3, none⟩ v3).setCell ⟨s, 4, none⟩ v4) :=
  ((((hb.setCell h _).setCell h _).setCell h _).setCell h _).setCell h _

/-- The sum of the first twenty bytes, with noughts in its own place. -/
def sumOf (l : List Int) : Int := 65535 - rep (words true (((l.take 20).set 10 0).set 11 0))

set_option maxHeartbeats 4000000 in
set_option maxRecDepth 100000 in
theorem read_sum (A : Option Addr) (c : Nat) (l : List Int) (w : World) (hr0 : Kd.C (Kd.int .u8) w A l.length l) (hc0 : l.length ≤ c) (hb : Bytes l) (h20 : ¬ l.length < 20) (hf : Form l) (hs : ¬ sumOf l = be2 l 10) :
    Calls Tryd.prog 21 #[.slice A l.length c] w (Told 4 w) := by
  have hu24 := Tryd.underlying24
  obtain ⟨x, e0, _⟩ := Kd.at_int hr0 0 (by omega) (by omega)
  subst e0
  have hxl : x.block < w.heap.size := by
    obtain ⟨y, e, h⟩ := Kd.at_int hr0 0 (by omega) (by omega)
    obtain rfl := Option.some.inj e
    have ha : x.add (Int.toNat 0) = x := by simp [Addr.add]
    rw [ha] at h
    exact cell_lt h
  have g0 : (w.alloc (.cells #[.int .i64 0, .int .i64 0, .int .i64 0, .int .i64 0, .slice none 0 0] 24)).cell? x = some (.int .u8 (rd l 0)) := by
    obtain ⟨y, e, h⟩ := Kd.at_int hr0 0 (by omega) (by omega)
    obtain rfl := Option.some.inj e
    rw [World.cell?_alloc_lt _ _ x hxl]
    have ha : x.add (Int.toNat 0) = x := by simp [Addr.add]
    rw [ha] at h
    exact h
  have g1 : (w.alloc (.cells #[.int .i64 0, .int .i64 0, .int .i64 0, .int .i64 0, .slice none 0 0] 24)).cell? ⟨x.block, x.off + 1, none⟩ = some (.int .u8 (rd l 1)) := by
    obtain ⟨y, e, h⟩ := Kd.at_int hr0 1 (by omega) (by omega)
    obtain rfl := Option.some.inj e
    rw [World.cell?_alloc_lt _ _ ⟨x.block, x.off + 1, none⟩ hxl]
    exact h
  have HR0 := Aside0.mk hr0
  have HC0 := Aside0.mk hc0
  have HBY := Aside0.mk hb
  have HL := Aside0.mk h20
  have HXL := Aside0.mk hxl
  clear hr0 hc0 hb hxl
  obtain ⟨c1, c2, c3, c4, c5⟩ := hf
  have b1 : (rd l 0 == 69) = true := beq_iff_eq.mpr c1
  have b1' : (rd l 0 != 69) = false := bne_eq_false_iff_eq.mpr c1
  have b2 : (rd l 1 == 0) = true := beq_iff_eq.mpr c2
  have b2' : (rd l 1 != 0) = false := bne_eq_false_iff_eq.mpr c2
  have b3 : (be4 l 4 == 0) = true := beq_iff_eq.mpr c3
  have b3' : (be4 l 4 != 0) = false := bne_eq_false_iff_eq.mpr c3
  have b4 : (be2 l 2 == (l.length : Int)) = true := beq_iff_eq.mpr c4
  have b4' : (be2 l 2 != (l.length : Int)) = false := bne_eq_false_iff_eq.mpr c4
  have b5 : decide (1044 < be2 l 2) = false := decide_eq_false c5
  have b6 : (sumOf l == be2 l 10) = false := beq_eq_false_iff_ne.mpr hs
  have b6' : (sumOf l != be2 l 10) = true := bne_iff_ne.mpr hs
  have hlm : l.length ≤ 1044 := by omega
  clear c1 c2 c3 c4 c5 hs
  have HSZ := Aside0.mk (show (w.alloc zeroBlock).heap.size = w.heap.size + 1 from by simp)
  have HT := Aside0.mk (C_take HR0.out 20 (by have := HL.out; omega))
  have hTl : (l.take 20).length = 20 := by rw [List.length_take]; have := HL.out; omega
  have HTl := Aside0.mk hTl
  have HSUM := Aside0.mk (show sum_Inet.f 30 (((l.take 20).set 10 0).set 11 0) = some (sumOf l) from by
    refine inet _ ?_ (by simp; omega) 30 (by simp; omega)
    intro y hy
    have hy0 : y ∈ l ∨ y = 0 := by
      rcases List.mem_or_eq_of_mem_set hy with h | h
      · rcases List.mem_or_eq_of_mem_set h with h | h
        · exact .inl (List.mem_of_mem_take h)
        · exact .inr h
      · exact .inr h
    rcases hy0 with h | h
    · exact HBY.out y h
    · omega)
  clear hTl
  have hcc : 20 ≤ c := by have := HC0.out; have := HL.out; omega
  go_enter Tryd.func21, Tryd.ntmps21
  go_wp2_with (first | (go_at_call 27; refine (bad_any _ _ W).mono ?_; rintro e w'' ⟨rfl, hW⟩; have hb := (show Below (w.heap.size + 1) (w.alloc zeroBlock) w'' from by rw [hW]; exact (HB.out.alloc (by have := HB.out.size; simp at this; omega) _).alloc (by have := HB.out.size; simp at this; simp; omega) _); have e1 := (show w''.cell? ⟨W.heap.size + 1, 1, none⟩ = some (.iface 57 (.pointer (some ⟨W.heap.size, 0, none⟩))) from by rw [hW]; simp [go_sem]); have e2 := (show w''.cell? ⟨W.heap.size, 0, none⟩ = some (.int .i64 4) from by rw [hW]; simp [go_sem]); have hn := (show w.heap.size + 1 ≤ W.heap.size from by have := HB.out.size; simp at this; omega); have E1 := Aside0.mk e1; have E2 := Aside0.mk e2; have HN := Aside0.mk hn; clear e1 e2 hn hW HB; have HB := Aside0.mk hb; clear hb; obtain ⟨⟨y0, y1, y2, y3, y4⟩, yf⟩ := zero_cells w w'' HB.out; have yf0 := yf 0; have yf1 := yf 1; have yf2 := yf 2; have yf3 := yf 3; have yf4 := yf 4; clear yf) | (go_at_call 28; (with_reducible refine (get_2_2 (some x) c l _ ?g1 HC0.out (by have := HL.out; omega) HBY.out).mono ?_); (case g1 => exact Kd.C_below HR0.out (by repeat (first | exact Below.refl _ _ | apply below_alloc | apply pw_below_drewN | apply below_drew1))); rintro e w' ⟨rfl, rfl⟩) | (go_at_call 28; (with_reducible refine (get_4_4 (some x) c l _ ?g1 HC0.out (by have := HL.out; omega) HBY.out).mono ?_); (case g1 => exact Kd.C_below HR0.out (by repeat (first | exact Below.refl _ _ | apply below_alloc | apply pw_below_drewN | apply below_drew1))); rintro e w' ⟨rfl, rfl⟩) | (go_at_call 29; (with_reducible refine (clone_at (some x) c 20 (l.take 20) _ HTl.out.symm ?g1 (by have := HTl.out; omega)).mono ?_); (case g1 => exact Kd.C_below HT.out (by repeat (first | exact Below.refl _ _ | apply below_alloc | apply pw_below_drewN | apply below_drew1))); rintro e w' ⟨v, rfl, ho, hb⟩; rw [show (w.alloc (.cells #[.int .i64 0, .int .i64 0, .int .i64 0, .int .i64 0, .slice none 0 0] 24)).heap.size = w.heap.size + 1 from by simp] at ho hb; obtain ⟨g, cap, rfl, hgb, hgl, hgc⟩ := Kd.R_form ho (by have := HTl.out; omega); rw [HTl.out] at ho ⊢; have HO := Aside0.mk ho; have HB := Aside0.mk (show Below (w.heap.size + 1) (w.alloc zeroBlock) w' from hb); have HGB := Aside0.mk hgb; obtain ⟨⟨y0, y1, y2, y3, y4⟩, yf⟩ := zero_cells w w' HB.out; have yf0 := yf 0; have yf1 := yf 1; have yf2 := yf 2; have yf3 := yf 3; have yf4 := yf 4; have g10 : w'.cell? ⟨g, 10, none⟩ = some (.int .u8 (rdOf 0 (l.take 20) 10)) := (Kd.R_celln 0 HO.out 10 (by decide) (by decide)).1; have z10 : w'.frozen? ⟨g, 10, none⟩ = false := (Kd.R_celln 0 HO.out 10 (by decide) (by decide)).2; have g11 : w'.cell? ⟨g, 11, none⟩ = some (.int .u8 (rdOf 0 (l.take 20) 11)) := (Kd.R_celln 0 HO.out 11 (by decide) (by decide)).1; have z11 : w'.frozen? ⟨g, 11, none⟩ = false := (Kd.R_celln 0 HO.out 11 (by decide) (by decide)).2; clear ho hb hgb hgl hgc yf) | (go_at_call 17; (with_reducible refine (sum_at 30 (some ⟨g, 0, none⟩) cap 20 (((l.take 20).set 10 0).set 11 0) (sumOf l) _ ?s0 ?s1 ?s2 HSUM.out).mono ?_); (case s0 => simp only [List.length_set]; exact HTl.out.symm); (case s1 => exact (Kd.R_reads' (Kd.R_putg (Kd.R_putg HO.out 10 0).1 11 0).1).2.2); (case s2 => have h_ := (Kd.R_reads' HO.out).2.1; simp only [List.length_set]; have := HTl.out; omega); rintro e w'' ⟨rfl, ⟨nd, rfl⟩⟩; have hb := pw_below_drewN ((HB.out.setCell (p := ⟨g, 10, none⟩) HGB.out (.int .u8 0)).setCell (p := ⟨g, 11, none⟩) HGB.out (.int .u8 0)) nd; generalize hW : ((w'.setCell ⟨g, 10, none⟩ (.int .u8 0)).setCell ⟨g, 11, none⟩ (.int .u8 0)).drewN nd = W at hb ⊢; clear hW HB HO g10 g11 z10 z11 y0 y1 y2 y3 y4 yf0 yf1 yf2 yf3 yf4; have HB := Aside0.mk hb; clear hb) | (go_at_call 28; (with_reducible refine (get_10_2 (some x) c l _ ?g1 HC0.out (by have := HL.out; omega) HBY.out).mono ?_); (case g1 => exact Kd.C_below HR0.out (below_zero HB.out)); rintro e W ⟨rfl, rfl⟩))
  refine bodyPost_ret (v := .tuple #[.agg #[.int .i64 0, .int .i64 0, .int .i64 0, .int .i64 0, .slice none 0 0], .iface 62 (.pointer (some ⟨W.heap.size + 1, 0, none⟩))]) (by simp [results, Tryd.results21, go_sem, y0, y1, y2, y3, y4]) rfl ⟨W.heap.size + 1, W.heap.size, rfl, ?_, ?_, ?_⟩
  · skip
    rw [far_cells (by have := HN.out; omega)]
    exact E1.out
  · rw [far_cells (by have := HN.out; omega)]
    exact E2.out
  · exact below_five (below_zero HB.out) (Nat.le_refl _)

end Go.Proofs.YtdocfafokfajeaaDoor.PIp
