/- ip.read at bytes of the right form: the error of another sum, or the datagram. Conditions: none beside what the slice's cells hold. -/
import Derived.Test.YtdocfafokfajeaaDoorRead2
import Derived.Deep.RegionHeld3
namespace Go.Proofs.YtdocfafokfajeaaDoor.PIp
open Go.RowKit Go.Proofs.YtdocfafokfajeaaDoorW.PrintWords Go.Proofs.YtdocfafokfajeaaDoorW.PrintLast Go.Proofs.YtdocfafokfajeaaDoorW.PrintMore
open Go.Proofs.YtdocfafokfajeaaDoor.Inet
set_option linter.unusedVariables false
set_option linter.unusedSimpArgs false

/-- A world with the zero block, behind a draw, under a name. -/
def tagged (W : World) : World := (W.alloc zeroBlock).drew
theorem probe (W : World) : (W.alloc (.cells #[.int .i64 0, .int .i64 0, .int .i64 0, .int .i64 0, .slice none 0 0] 24)).drew = tagged W := rfl

theorem zero_after {W w' : World} (hb : Below (tagged W).heap.size (tagged W) w') :
    (w'.cell? ⟨W.heap.size, 0, none⟩ = some (.int .i64 0) ∧ w'.cell? ⟨W.heap.size, 1, none⟩ = some (.int .i64 0) ∧ w'.cell? ⟨W.heap.size, 2, none⟩ = some (.int .i64 0) ∧ w'.cell? ⟨W.heap.size, 3, none⟩ = some (.int .i64 0) ∧ w'.cell? ⟨W.heap.size, 4, none⟩ = some (.slice none 0 0)) ∧
    (∀ i, w'.frozen? ⟨W.heap.size, i, none⟩ = false) :=
  ⟨⟨(hb.cell (p := ⟨W.heap.size, 0, none⟩) (by simp [tagged])).trans (by simp [tagged, zeroBlock]), (hb.cell (p := ⟨W.heap.size, 1, none⟩) (by simp [tagged])).trans (by simp [tagged, zeroBlock]), (hb.cell (p := ⟨W.heap.size, 2, none⟩) (by simp [tagged])).trans (by simp [tagged, zeroBlock]), (hb.cell (p := ⟨W.heap.size, 3, none⟩) (by simp [tagged])).trans (by simp [tagged, zeroBlock]), (hb.cell (p := ⟨W.heap.size, 4, none⟩) (by simp [tagged])).trans (by simp [tagged, zeroBlock])⟩,
   fun i => (hb.frozen (p := ⟨W.heap.size, i, none⟩) (by simp [tagged])).trans (by simp [tagged, zeroBlock])⟩

/-- The block that holds the datagram that was read. -/
def Built (l : List Int) (w : World) (v6 : Value) (wc : World) : Prop :=
  ∃ (g6 : Nat) (v : Value), v6 = .pointer (some ⟨g6, 0, none⟩) ∧ (∃ A n c, v = .slice A n c) ∧ (wc.cell? ⟨g6, 0, none⟩ = some (.int .i64 (IntKind.i64.wrap (rd l 8))) ∧ wc.cell? ⟨g6, 1, none⟩ = some (.int .i64 (IntKind.i64.wrap (rd l 9))) ∧ wc.cell? ⟨g6, 2, none⟩ = some (.int .i64 (be4 l 12)) ∧ wc.cell? ⟨g6, 3, none⟩ = some (.int .i64 (be4 l 16)) ∧ wc.cell? ⟨g6, 4, none⟩ = some v) ∧
    Kd.R (Kd.int .u8) 5 wc (w.heap.size + 1) (fun _ => True) v (l.drop 20) ∧ Below (w.heap.size + 1) (w.alloc zeroBlock) wc ∧ w.heap.size + 1 ≤ g6

theorem size_after {w W : World} (hB : Below (w.heap.size + 1) (w.alloc zeroBlock) W) : w.heap.size + 1 ≤ W.heap.size := by
  have := hB.size
  simp at this
  omega

theorem built_a {l : List Int} {w W w' : World} {Ao : Option Addr} {co : Nat} (hB : Below (w.heap.size + 1) (w.alloc zeroBlock) W) (ho : Kd.R (Kd.int .u8) 5 w' W.drew.heap.size (fun _ => True) (.slice Ao (l.drop 20).length co) (l.drop 20)) (hb : Below W.drew.heap.size W.drew w') :
    Built l w (.pointer (some ⟨w'.heap.size, 0, none⟩)) (w'.alloc (.cells #[.int .i64 (IntKind.i64.wrap (rd l 8)), .int .i64 (IntKind.i64.wrap (rd l 9)), .int .i64 (be4 l 12), .int .i64 (be4 l 16), .slice Ao (l.length - 20) co] 24)) := by
  have hs := size_after hB
  have hs' : W.heap.size ≤ w'.heap.size := by have := hb.size; simpa using this
  rw [List.length_drop] at ho
  exact ⟨w'.heap.size, _, rfl, ⟨_, _, _, rfl⟩, ⟨by simp, by simp, by simp, by simp, by simp⟩, Kd.R_alloc (Kd.R_lower ho (by simpa using hs)) _, (hB.drew.trans (hb.mono (by simpa using hs))).alloc (by omega) _, by omega⟩

theorem built_b {l : List Int} {w W w' : World} {Ao : Option Addr} {co : Nat} (hB : Below (w.heap.size + 1) (w.alloc zeroBlock) W) (ho : Kd.R (Kd.int .u8) 5 w' (tagged W).heap.size (fun _ => True) (.slice Ao (l.drop 20).length co) (l.drop 20)) (hb : Below (tagged W).heap.size (tagged W) w') :
    Built l w (.pointer (some ⟨W.heap.size, 0, none⟩)) (((((w'.setCell ⟨W.heap.size, 0, none⟩ (.int .i64 (IntKind.i64.wrap (rd l 8)))).setCell ⟨W.heap.size, 1, none⟩ (.int .i64 (IntKind.i64.wrap (rd l 9)))).setCell ⟨W.heap.size, 2, none⟩ (.int .i64 (be4 l 12))).setCell ⟨W.heap.size, 3, none⟩ (.int .i64 (be4 l 16))).setCell ⟨W.heap.size, 4, none⟩ (.slice Ao (l.length - 20) co)) := by
  have hs := size_after hB
  have htag : (tagged W).heap.size = W.heap.size + 1 := by simp [tagged]
  obtain ⟨⟨y0, y1, y2, y3, y4⟩, _⟩ := zero_after hb
  rw [List.length_drop] at ho
  have hW : Below (w.heap.size + 1) (w.alloc zeroBlock) w' := ((hB.alloc hs _).drew).trans (hb.mono (by rw [htag]; omega))
  have hr := Kd.R_bound ho
  have far : ∀ (i : Nat) (k : Nat), (True ∧ (tagged W).heap.size ≤ k ∧ k < w'.heap.size ∧ ∃ q, q ∈ 5 :: (Kd.int .u8).E ∧ ∃ cells, w'.heap[k]? = some (.cells cells q (0, 0))) → k ≠ (⟨W.heap.size, i, none⟩ : Addr).block := by
    intro i k hk e
    have := hk.2.1
    rw [htag] at this
    simp at e
    omega
  refine ⟨W.heap.size, _, rfl, ⟨_, _, _, rfl⟩, ⟨?_, ?_, ?_, ?_, ?_⟩, Kd.R_mono (Kd.R_lower (Kd.R_far (Kd.R_far (Kd.R_far (Kd.R_far (Kd.R_far hr (far 0) _) (far 1) _) (far 2) _) (far 3) _) (far 4) _) (by rw [htag]; omega)) (fun _ _ => trivial), below_five hW hs, hs⟩
  all_goals simp [go_sem, y0, y1, y2, y3, y4]

theorem ret_data {a b c d : Int} {v : Value} {a' b' : Int} (ha : a = a') (hb : b = b') : Ending.returned (.tuple #[.agg #[.int .i64 a, .int .i64 b, .int .i64 c, .int .i64 d, v], .nilIface]) = .returned (.tuple #[.agg #[.int .i64 a', .int .i64 b', .int .i64 c, .int .i64 d, v], .nilIface]) := by rw [ha, hb]

theorem C_drop {w : World} {A : Option Addr} {l : List Int} {c : Nat} (h : Kd.C (Kd.int .u8) w A l.length l) (j : Nat) (hj : j ≤ l.length) (hc : l.length ≤ c) : Kd.C (Kd.int .u8) w (if c = j then A else A.map (·.add j)) (l.drop j).length (l.drop j) := by
  have h2 := (Kd.reads_of_C (d := (0 : Int)) h).drop_ (c := c) j hj hc
  rw [List.length_drop]
  exact Kd.C_of_reads (d := (0 : Int)) (h1 := fun _ => rfl) h2

/-- A row of blocks behind s stays where five cells of block s are stored. -/
theorem R_five {l : List Int} {W : World} {s : Nat} {v v0 v1 v2 v3 v4 : Value} (h : Kd.R (Kd.int .u8) 5 W (s + 1) (fun _ => True) v l) :
    Kd.R (Kd.int .u8) 5 (((((W.setCell ⟨s, 0, none⟩ v0).setCell ⟨s, 1, none⟩ v1).setCell ⟨s, 2, none⟩ v2).setCell ⟨s, 3, none⟩ v3).setCell ⟨s, 4, none⟩ v4) s (fun _ => True) v l := by
  have hr := Kd.R_bound h
  have far : ∀ (i : Nat) (k : Nat), (True ∧ s + 1 ≤ k ∧ k < W.heap.size ∧ ∃ q, q ∈ 5 :: (Kd.int .u8).E ∧ ∃ cells, W.heap[k]? = some (.cells cells q (0, 0))) → k ≠ (⟨s, i, none⟩ : Addr).block := by
    intro i k hk e
    have := hk.2.1
    simp at e
    omega
  exact Kd.R_mono (Kd.R_lower (Kd.R_far (Kd.R_far (Kd.R_far (Kd.R_far (Kd.R_far hr (far 0) _) (far 1) _) (far 2) _) (far 3) _) (far 4) _) (by omega)) (fun _ _ => trivial)

theorem wrap_byte {l : List Int} (h : Bytes l) (i : Int) : wrap64 (rd l i) = rd l i := by
  have := rd_byte h i
  unfold wrap64
  omega

set_option maxHeartbeats 4000000 in
set_option maxRecDepth 100000 in
theorem read_ok (A : Option Addr) (c : Nat) (l : List Int) (w : World) (hr0 : Kd.C (Kd.int .u8) w A l.length l) (hc0 : l.length ≤ c) (hb : Bytes l) (h20 : ¬ l.length < 20) (hf : Form l) (hs : sumOf l = be2 l 10) :
    Calls Tryd.prog 21 #[.slice A l.length c] w fun e w' => ∃ v : Value, e = .returned (.tuple #[.agg #[.int .i64 (rd l 8), .int .i64 (rd l 9), .int .i64 (be4 l 12), .int .i64 (be4 l 16), v], .nilIface]) ∧ Kd.R (Kd.int .u8) 5 w' w.heap.size (fun _ => True) v (l.drop 20) ∧ Below w.heap.size w w' := by
  have hu24 := Tryd.underlying24
  obtain ⟨x, e0, _⟩ := Kd.at_int hr0 0 (by omega) (by omega)
  subst e0
  have hxl : x.block < w.heap.size := by
    obtain ⟨y, e, h⟩ := Kd.at_int hr0 0 (by omega) (by omega)
    obtain rfl := Option.some.inj e
    have ha : x.add (Int.toNat 0) = x := by simp [Addr.add]
    rw [ha] at h
    exact cell_lt h
  have g0 : (w.alloc (.cells #[.int .i64 0, .int .i64 0, .int .i64 0, .int .i64 0, .slice none 0 0] 24)).cell? x = some (.int .u8 (rd l 0)) := by
    obtain ⟨y, e, h⟩ := Kd.at_int hr0 0 (by omega) (by omega)
    obtain rfl := Option.some.inj e
    rw [World.cell?_alloc_lt _ _ x hxl]
    have ha : x.add (Int.toNat 0) = x := by simp [Addr.add]
    rw [ha] at h
    exact h
  have g1 : (w.alloc (.cells #[.int .i64 0, .int .i64 0, .int .i64 0, .int .i64 0, .slice none 0 0] 24)).cell? ⟨x.block, x.off + 1, none⟩ = some (.int .u8 (rd l 1)) := by
    obtain ⟨y, e, h⟩ := Kd.at_int hr0 1 (by omega) (by omega)
    obtain rfl := Option.some.inj e
    rw [World.cell?_alloc_lt _ _ ⟨x.block, x.off + 1, none⟩ hxl]
    exact h
  have HR0 := Aside0.mk hr0
  have HC0 := Aside0.mk hc0
  have HBY := Aside0.mk hb
  have HL := Aside0.mk h20
  have HXL := Aside0.mk hxl
  clear hr0 hc0 hb hxl
  obtain ⟨c1, c2, c3, c4, c5⟩ := hf
  have b1 : (rd l 0 == 69) = true := beq_iff_eq.mpr c1
  have b1' : (rd l 0 != 69) = false := bne_eq_false_iff_eq.mpr c1
  have b2 : (rd l 1 == 0) = true := beq_iff_eq.mpr c2
  have b2' : (rd l 1 != 0) = false := bne_eq_false_iff_eq.mpr c2
  have b3 : (be4 l 4 == 0) = true := beq_iff_eq.mpr c3
  have b3' : (be4 l 4 != 0) = false := bne_eq_false_iff_eq.mpr c3
  have b4 : (be2 l 2 == (l.length : Int)) = true := beq_iff_eq.mpr c4
  have b4' : (be2 l 2 != (l.length : Int)) = false := bne_eq_false_iff_eq.mpr c4
  have b5 : decide (1044 < be2 l 2) = false := decide_eq_false c5
  have b6 : (sumOf l == be2 l 10) = true := beq_iff_eq.mpr hs
  have b6' : (sumOf l != be2 l 10) = false := bne_eq_false_iff_eq.mpr hs
  have hlm : l.length ≤ 1044 := by omega
  clear c1 c2 c3 c4 c5 hs
  have HSZ := Aside0.mk (show (w.alloc zeroBlock).heap.size = w.heap.size + 1 from by simp)
  have HT := Aside0.mk (C_take HR0.out 20 (by have := HL.out; omega))
  have hTl : (l.take 20).length = 20 := by rw [List.length_take]; have := HL.out; omega
  have HTl := Aside0.mk hTl
  have HSUM := Aside0.mk (show sum_Inet.f 30 (((l.take 20).set 10 0).set 11 0) = some (sumOf l) from by
    refine inet _ ?_ (by simp; omega) 30 (by simp; omega)
    intro y hy
    have hy0 : y ∈ l ∨ y = 0 := by
      rcases List.mem_or_eq_of_mem_set hy with h | h
      · rcases List.mem_or_eq_of_mem_set h with h | h
        · exact .inl (List.mem_of_mem_take h)
        · exact .inr h
      · exact .inr h
    rcases hy0 with h | h
    · exact HBY.out y h
    · omega)
  clear hTl
  have HD : Aside0 (Kd.C (Kd.int .u8) w (if c = 20 then some x else some (x.add 20)) (l.drop 20).length (l.drop 20)) := Aside0.mk (C_drop (A := some x) HR0.out 20 (by have := HL.out; omega) HC0.out)
  have hcc : 20 ≤ c := by have := HC0.out; have := HL.out; omega
  go_enter Tryd.func21, Tryd.ntmps21
  go_upto_region 10 with (first | (go_at_call 28; (with_reducible refine (get_2_2 (some x) c l _ ?g1 HC0.out (by have := HL.out; omega) HBY.out).mono ?_); (case g1 => exact Kd.C_below HR0.out (by repeat (first | exact Below.refl _ _ | apply below_alloc | apply pw_below_drewN | apply below_drew1))); rintro e w' ⟨rfl, rfl⟩) | (go_at_call 28; (with_reducible refine (get_4_4 (some x) c l _ ?g1 HC0.out (by have := HL.out; omega) HBY.out).mono ?_); (case g1 => exact Kd.C_below HR0.out (by repeat (first | exact Below.refl _ _ | apply below_alloc | apply pw_below_drewN | apply below_drew1))); rintro e w' ⟨rfl, rfl⟩) | (go_at_call 29; (with_reducible refine (clone_at (some x) c 20 (l.take 20) _ HTl.out.symm ?g1 (by have := HTl.out; omega)).mono ?_); (case g1 => exact Kd.C_below HT.out (by repeat (first | exact Below.refl _ _ | apply below_alloc | apply pw_below_drewN | apply below_drew1))); rintro e w' ⟨v, rfl, ho, hb⟩; rw [show (w.alloc (.cells #[.int .i64 0, .int .i64 0, .int .i64 0, .int .i64 0, .slice none 0 0] 24)).heap.size = w.heap.size + 1 from by simp] at ho hb; obtain ⟨g, cap, rfl, hgb, hgl, hgc⟩ := Kd.R_form ho (by have := HTl.out; omega); rw [HTl.out] at ho ⊢; have HO := Aside0.mk ho; have HB := Aside0.mk (show Below (w.heap.size + 1) (w.alloc zeroBlock) w' from hb); have HGB := Aside0.mk hgb; obtain ⟨⟨y0, y1, y2, y3, y4⟩, yf⟩ := zero_cells w w' HB.out; have yf0 := yf 0; have yf1 := yf 1; have yf2 := yf 2; have yf3 := yf 3; have yf4 := yf 4; have g10 : w'.cell? ⟨g, 10, none⟩ = some (.int .u8 (rdOf 0 (l.take 20) 10)) := (Kd.R_celln 0 HO.out 10 (by decide) (by decide)).1; have z10 : w'.frozen? ⟨g, 10, none⟩ = false := (Kd.R_celln 0 HO.out 10 (by decide) (by decide)).2; have g11 : w'.cell? ⟨g, 11, none⟩ = some (.int .u8 (rdOf 0 (l.take 20) 11)) := (Kd.R_celln 0 HO.out 11 (by decide) (by decide)).1; have z11 : w'.frozen? ⟨g, 11, none⟩ = false := (Kd.R_celln 0 HO.out 11 (by decide) (by decide)).2; clear ho hb hgb hgl hgc yf) | (go_at_call 17; (with_reducible refine (sum_at 30 (some ⟨g, 0, none⟩) cap 20 (((l.take 20).set 10 0).set 11 0) (sumOf l) _ ?s0 ?s1 ?s2 HSUM.out).mono ?_); (case s0 => simp only [List.length_set]; exact HTl.out.symm); (case s1 => exact (Kd.R_reads' (Kd.R_putg (Kd.R_putg HO.out 10 0).1 11 0).1).2.2); (case s2 => have h_ := (Kd.R_reads' HO.out).2.1; simp only [List.length_set]; have := HTl.out; omega); rintro e w'' ⟨rfl, ⟨nd, rfl⟩⟩; have hb := pw_below_drewN ((HB.out.setCell (p := ⟨g, 10, none⟩) HGB.out (.int .u8 0)).setCell (p := ⟨g, 11, none⟩) HGB.out (.int .u8 0)) nd; generalize hW : ((w'.setCell ⟨g, 10, none⟩ (.int .u8 0)).setCell ⟨g, 11, none⟩ (.int .u8 0)).drewN nd = W at hb ⊢; clear hW HB HO g10 g11 z10 z11 y0 y1 y2 y3 y4 yf0 yf1 yf2 yf3 yf4; have HB := Aside0.mk hb; clear hb) | (go_at_call 28; (with_reducible refine (get_10_2 (some x) c l _ ?g1 HC0.out (by have := HL.out; omega) HBY.out).mono ?_); (case g1 => exact Kd.C_below HR0.out (below_zero HB.out)); rintro e W ⟨rfl, rfl⟩))
  have hxl : x.block < W.heap.size := Nat.lt_of_lt_of_le HXL.out (below_zero HB.out).size
  have x8 : W.cell? ⟨x.block, x.off + 8, none⟩ = some (.int .u8 (rd l 8)) := by
    obtain ⟨y, e, h⟩ := Kd.at_int (Kd.C_below HR0.out (below_zero HB.out)) 8 (by decide) (by have := HL.out; omega)
    obtain rfl := Option.some.inj e
    exact h
  have x9 : W.cell? ⟨x.block, x.off + 9, none⟩ = some (.int .u8 (rd l 9)) := by
    obtain ⟨y, e, h⟩ := Kd.at_int (Kd.C_below HR0.out (below_zero HB.out)) 9 (by decide) (by have := HL.out; omega)
    obtain rfl := Option.some.inj e
    exact h
  have i8 : (8 : Int) < (l.length : Int) := by have := HL.out; omega
  have i9 : (9 : Int) < (l.length : Int) := by have := HL.out; omega
  have i20 : (20 : Int) ≤ (l.length : Int) := by have := HL.out; omega
  have n20 : 20 ≤ l.length := by omega
  have n8 : 8 < l.length := by omega
  have n9 : 9 < l.length := by omega
  have hne : x.block ≠ W.heap.size := Nat.ne_of_lt hxl
  go_cut [6] (fun v6 wc => Built l w v6 wc)
  case first =>
    by_cases hc20 : c = 20
    · subst hc20
      have HD2 := Aside0.mk (show Kd.C (Kd.int .u8) w (some x) (l.drop 20).length (l.drop 20) from by have h := HD.out; rwa [if_pos rfl] at h)
      go_region_held3 (fun w' => w'.cell? ⟨x.block, x.off + 8, none⟩ = some (.int .u8 (rd l 8)) ∧ w'.cell? ⟨x.block, x.off + 9, none⟩ = some (.int .u8 (rd l 9))) (first | (with_reducible exact ⟨x8', x9'⟩) | (with_reducible exact ⟨(far_cells hne).trans x8', (far_cells hne).trans x9'⟩) | go_keep) (first | (go_at_call 28; (with_reducible refine (get_12_4 (some x) _ l _ ?g1 HC0.out (by have := HL.out; omega) HBY.out).mono ?_); (case g1 => exact Kd.C_below HR0.out (by repeat (first | exact below_zero HB.out | apply below_alloc | apply pw_below_drewN | apply below_drew1))); rintro e w' ⟨rfl, rfl⟩) | (go_at_call 28; (with_reducible refine (get_16_4 (some x) _ l _ ?g1 HC0.out (by have := HL.out; omega) HBY.out).mono ?_); (case g1 => exact Kd.C_below HR0.out (by repeat (first | exact below_zero HB.out | apply below_alloc | apply pw_below_drewN | apply below_drew1))); rintro e w' ⟨rfl, rfl⟩) | (go_at_call 29; (with_reducible refine (clone_at _ _ (l.length - 20) (l.drop 20) _ (by simp) ?g1 (by have := HC0.out; simp; omega)).mono ?_); (case g1 => exact Kd.C_below HD2.out (by repeat (first | exact below_zero HB.out | apply below_alloc | apply pw_below_drewN | apply below_drew1))); rintro e w' ⟨v, rfl, ho, hb⟩; obtain ⟨Ao, co, rfl⟩ := Kd.R_slice ho; have x8' : w'.cell? ⟨x.block, x.off + 8, none⟩ = some (.int .u8 (rd l 8)) := (hb.cell (p := ⟨x.block, x.off + 8, none⟩) (by simp; omega)).trans (by simp [World.cell?_alloc_lt _ _ ⟨x.block, x.off + 8, none⟩ hxl, x8]); have x9' : w'.cell? ⟨x.block, x.off + 9, none⟩ = some (.int .u8 (rd l 9)) := (hb.cell (p := ⟨x.block, x.off + 9, none⟩) (by simp; omega)).trans (by simp [World.cell?_alloc_lt _ _ ⟨x.block, x.off + 9, none⟩ hxl, x9]); (first | (rw [probe W] at hb ho; obtain ⟨⟨y0', y1', y2', y3', y4'⟩, yf⟩ := zero_after hb; have yf0' := yf 0; have yf1' := yf 1; have yf2' := yf 2; have yf3' := yf 3; have yf4' := yf 4; clear yf) | skip); have HO2 := Aside0.mk ho; have HB2 := Aside0.mk hb; clear ho hb))
      all_goals (go_wp2_with fail; go_meet)
      all_goals (first | (with_reducible exact built_a HB.out HO2.out HB2.out) | (with_reducible exact built_b HB.out HO2.out HB2.out))
    · have HD2 := Aside0.mk (show Kd.C (Kd.int .u8) w (some (x.add 20)) (l.drop 20).length (l.drop 20) from by have h := HD.out; rwa [if_neg hc20] at h)
      go_region_held3 (fun w' => w'.cell? ⟨x.block, x.off + 8, none⟩ = some (.int .u8 (rd l 8)) ∧ w'.cell? ⟨x.block, x.off + 9, none⟩ = some (.int .u8 (rd l 9))) (first | (with_reducible exact ⟨x8', x9'⟩) | (with_reducible exact ⟨(far_cells hne).trans x8', (far_cells hne).trans x9'⟩) | go_keep) (first | (go_at_call 28; (with_reducible refine (get_12_4 (some x) _ l _ ?g1 HC0.out (by have := HL.out; omega) HBY.out).mono ?_); (case g1 => exact Kd.C_below HR0.out (by repeat (first | exact below_zero HB.out | apply below_alloc | apply pw_below_drewN | apply below_drew1))); rintro e w' ⟨rfl, rfl⟩) | (go_at_call 28; (with_reducible refine (get_16_4 (some x) _ l _ ?g1 HC0.out (by have := HL.out; omega) HBY.out).mono ?_); (case g1 => exact Kd.C_below HR0.out (by repeat (first | exact below_zero HB.out | apply below_alloc | apply pw_below_drewN | apply below_drew1))); rintro e w' ⟨rfl, rfl⟩) | (go_at_call 29; (with_reducible refine (clone_at _ _ (l.length - 20) (l.drop 20) _ (by simp) ?g1 (by have := HC0.out; simp; omega)).mono ?_); (case g1 => exact Kd.C_below HD2.out (by repeat (first | exact below_zero HB.out | apply below_alloc | apply pw_below_drewN | apply below_drew1))); rintro e w' ⟨v, rfl, ho, hb⟩; obtain ⟨Ao, co, rfl⟩ := Kd.R_slice ho; have x8' : w'.cell? ⟨x.block, x.off + 8, none⟩ = some (.int .u8 (rd l 8)) := (hb.cell (p := ⟨x.block, x.off + 8, none⟩) (by simp; omega)).trans (by simp [World.cell?_alloc_lt _ _ ⟨x.block, x.off + 8, none⟩ hxl, x8]); have x9' : w'.cell? ⟨x.block, x.off + 9, none⟩ = some (.int .u8 (rd l 9)) := (hb.cell (p := ⟨x.block, x.off + 9, none⟩) (by simp; omega)).trans (by simp [World.cell?_alloc_lt _ _ ⟨x.block, x.off + 9, none⟩ hxl, x9]); (first | (rw [probe W] at hb ho; obtain ⟨⟨y0', y1', y2', y3', y4'⟩, yf⟩ := zero_after hb; have yf0' := yf 0; have yf1' := yf 1; have yf2' := yf 2; have yf3' := yf 3; have yf4' := yf 4; clear yf) | skip); have HO2 := Aside0.mk ho; have HB2 := Aside0.mk hb; clear ho hb))
      all_goals (go_wp2_with fail; go_meet)
      all_goals (first | (with_reducible exact built_a HB.out HO2.out HB2.out) | (with_reducible exact built_b HB.out HO2.out HB2.out))
  case rest =>
    obtain ⟨g6, v, rfl, ⟨Av, nv, cv, rfl⟩, ⟨u0, u1, u2, u3, u4⟩, hR, hBw, hg6⟩ := hcut
    have HRv := Aside0.mk hR
    have HBv := Aside0.mk hBw
    obtain ⟨⟨y0, y1, y2, y3, y4⟩, yf⟩ := zero_cells w wc hBw
    have yf0 := yf 0; have yf1 := yf 1; have yf2 := yf 2; have yf3 := yf 3; have yf4 := yf 4
    have HG6 := Aside0.mk hg6
    clear yf hR hBw hg6
    go_wp2
    refine bodyPost_ret (v := .tuple #[.agg #[.int .i64 (wrap64 (rd l 8)), .int .i64 (wrap64 (rd l 9)), .int .i64 (be4 l 12), .int .i64 (be4 l 16), .slice Av nv cv], .nilIface]) (by simp [results, Tryd.results21, go_sem, y0, y1, y2, y3, y4]) rfl ⟨.slice Av nv cv, ret_data (wrap_byte HBY.out 8) (wrap_byte HBY.out 9), R_five HRv.out, below_five (below_zero HBv.out) (Nat.le_refl _)⟩

end Go.Proofs.YtdocfafokfajeaaDoor.PIp
