/- The walk of the reference GetIp. Turned out of a print: one space a level, short names. -/
import Derived.Test.YtdocfafokfajeaaDoorRef1
import Derived.Test.YtdocfafokfajeaaDoorLeaf1
namespace Go.Proofs.YtdocfafokfajeaaDoor.PIp
open Go.RowKit Go.Proofs.YtdocfafokfajeaaDoorW.PrintWords Go.Proofs.YtdocfafokfajeaaDoorW.PrintLast Go.Proofs.YtdocfafokfajeaaDoorW.PrintMore
attribute [local go_sem] max2_int min2_int max_two min_two max_three min_three max_four min_four
set_option linter.unusedVariables false
set_option linter.unusedSimpArgs false

/-! ### plenumref1_GetIp: function 12 -/
def plenumref1_GetIp.j0 : Nat → List Int → Bool → Option (Int × Int × Int × Int × List Int × Int)
  | 0, _, _ => none
  | k + 1, x0, x37 => if x37 = true then (some (0, 0, 0, 0, ([] : List Int), 3)) else (if 8 < (x0.length : Int) then (if 9 < (x0.length : Int) then ((plenumref1_Four.f x0 12).bind fun t184 => ((plenumref1_Four.f x0 16).bind fun t185 => ((some (([] : List Int) : List Int)).bind fun y186 => (if 20 ≤ (x0.length : Int) then (if y186.length + (x0.drop 20).length < 140737488355328 then ((some (y186 ++ (x0.drop 20) : List Int)).bind fun y190 => ((plenumref1_PutIp.f k (wrap64 (rd x0 8)) (wrap64 (rd x0 9)) t184 t185 y190).bind fun bt194 => (if (strOfNums bt194.1).toList = (strOfNums x0).toList then (some (wrap64 (rd x0 8), wrap64 (rd x0 9), t184, t185, y190, 0)) else (some (0, 0, 0, 0, ([] : List Int), 4))))) else (none)) else (none))))) else (none)) else (none))
def plenumref1_GetIp.f (k : Nat) (l0 : List Int) : Option (Int × Int × Int × Int × List Int × Int) := if (l0.length : Int) < 20 then (some (0, 0, 0, 0, ([] : List Int), 2)) else (if 0 < (l0.length : Int) then (if (rd l0 0) = 69 then (if 1 < (l0.length : Int) then (if (rd l0 1) = 0 then ((plenumref1_Four.f l0 4).bind fun t180 => (if t180 = 0 then ((plenumref1_Two.f l0 2).bind fun t181 => (if t181 = (l0.length : Int) then (plenumref1_GetIp.j0 k l0 (decide ((l0.length : Int) > 1044))) else (plenumref1_GetIp.j0 k l0 true))) else (plenumref1_GetIp.j0 k l0 true))) else (plenumref1_GetIp.j0 k l0 true)) else (none)) else (plenumref1_GetIp.j0 k l0 true)) else (none))
theorem plenumref1_GetIp.mono_l : ∀ k, (∀ y0 y1, LeO (plenumref1_GetIp.j0 k y0 y1) (plenumref1_GetIp.j0 (k + 1) y0 y1))
  | 0 => fun _ _ r h => by simp [plenumref1_GetIp.j0] at h
  | k + 1 => by
    have ih0 := plenumref1_GetIp.mono_l k
    · intro y0 y1
      unfold plenumref1_GetIp.j0
      repeat' first
      | (with_reducible exact ih0 _ _)
      | (with_reducible exact plenumref1_PutIp.mono _ _ _ _ _ _)
      | (with_reducible exact LeO.refl _)
      | (with_reducible exact LeO.none _)
      | (with_reducible refine LeO.ite ?_ ?_)
      | (with_reducible refine LeO.bind ?_ (fun _ => ?_))
      | exact ih0 _ _
      | exact plenumref1_PutIp.mono _ _ _ _ _ _
      | exact LeO.none _
      | refine LeO.ite ?_ ?_
      | refine LeO.bind ?_ (fun _ => ?_)
theorem plenumref1_GetIp.mono : ∀ a0 k, LeO (plenumref1_GetIp.f k a0) (plenumref1_GetIp.f (k + 1) a0) := by
  intro a0 k
  have ih0 := plenumref1_GetIp.mono_l k
  unfold plenumref1_GetIp.f
  repeat' first
      | (with_reducible exact ih0 _ _)
      | (with_reducible exact plenumref1_PutIp.mono _ _ _ _ _ _)
      | (with_reducible exact LeO.refl _)
      | (with_reducible exact LeO.none _)
      | (with_reducible refine LeO.ite ?_ ?_)
      | (with_reducible refine LeO.bind ?_ (fun _ => ?_))
      | exact ih0 _ _
      | exact plenumref1_PutIp.mono _ _ _ _ _ _
      | exact LeO.none _
      | refine LeO.ite ?_ ?_
      | refine LeO.bind ?_ (fun _ => ?_)
def plenumref1_GetIp.T5 : Bool × List (List Nat × List Nat) := (true, [([], []), ([0], [0]), ([1], [1]), ([2], [2]), ([], []), ([4], [4]), ([5], [5]), ([6], [6]), ([], []), ([8], [8]), ([], []), ([10, 9], [10]), ([], []), ([], []), ([13], [13]), ([12, 14, 11], [12, 14]), ([3, 7, 9, 11, 15], [3, 7, 9, 11, 15]), ([], []), ([17, 16, 15, 0, 1, 2, 3, 4, 5, 6, 7, 8, 9, 10, 11, 12, 13, 14, 15, 16, 17], [16, 17])])
def plenumref1_GetIp.B5 : List Nat := [0, 1, 3, 7, 0, 16, 48, 112, 0, 256, 0, 1792, 0, 0, 8192, 32512, 65535, 0, 262143]
theorem plenumref1_GetIp.tab5 : rtab .any (opsOf Tryd.f12 5) = plenumref1_GetIp.T5 := by kernel_rfl
theorem plenumref1_GetIp.bits5 : waitsOk plenumref1_GetIp.T5.2 plenumref1_GetIp.B5 = true := by kernel_rfl

section
set_option linter.defProp false
def zA := @List.setIfInBounds_toArray
def zB := @List.set_cons_zero
def zC := @List.set_cons_succ
def zD := @World.block_lt_of_cell?
def zE := @pw_below_drewN
def zF := @below_drew1
def zG := @below_alloc
def zH := @below_set
def zI := @blk_drewN
def zJ := @blk_drew
def zK := @blk_alloc
def zL := @Nat.lt_of_lt_of_le
def zM := @Nat.ne_of_lt
def zN := @add_block
def zO := @cell_far
set_option maxHeartbeats 8000000 in
set_option maxRecDepth 100000 in
theorem plenumref1_GetIp.calls (k : Nat) (A0 : Option Addr) (c0 : Nat) (l0 : List Int) (r1 : Int) (r2 : Int) (r3 : Int) (r4 : Int) (r5 : List Int) (r6 : Int) (w : World) (hr0 : Kd.C (Kd.int .u8) w A0 l0.length l0) (hc0 : l0.length ≤ c0) (h : plenumref1_GetIp.f k l0 = some (r1, r2, r3, r4, r5, r6)) :
  Calls Tryd.prog 12 #[.slice A0 l0.length c0] w fun e w' => ∃ v4_ : Value, e = .returned (.tuple #[.agg #[.int .i64 r1, .int .i64 r2, .int .i64 r3, .int .i64 r4, v4_], .int .i64 r6]) ∧ Kd.R (Kd.int .u8) 5 w' w.heap.size (fun _ => True) v4_ r5 ∧ Below w.heap.size w w' := by
 have hu24 := Tryd.underlying24
 have HR0 := Aside0.mk hr0
 have HC0 := Aside0.mk hc0
 clear hr0 hc0
 have HB := Aside0.mk (Below.refl w.heap.size w)
 have H : (if (l0.length : Int) < 20 then (some (0, 0, 0, 0, ([] : List Int), 2)) else (if 0 < (l0.length : Int) then (if (rd l0 0) = 69 then (if 1 < (l0.length : Int) then (if (rd l0 1) = 0 then ((plenumref1_Four.f l0 4).bind fun t180 => (if t180 = 0 then ((plenumref1_Two.f l0 2).bind fun t181 => (if t181 = (l0.length : Int) then (plenumref1_GetIp.j0 k l0 (decide ((l0.length : Int) > 1044))) else (plenumref1_GetIp.j0 k l0 true))) else (plenumref1_GetIp.j0 k l0 true))) else (plenumref1_GetIp.j0 k l0 true)) else (none)) else (plenumref1_GetIp.j0 k l0 true)) else (none))) = some (r1, r2, r3, r4, r5, r6) := h
 clear h
 by_cases c2 : (l0.length : Int) < 20
 ·
  rw [if_pos c2] at H
  have c2b0 : decide ((l0.length : Int) < 20) = true := decide_eq_true c2
  have c2b1 : decide (l0.length < 20) = true := decide_eq_true (by omega)
  clear c2
  simp only [Option.some.injEq, Prod.mk.injEq] at H
  obtain ⟨rfl, rfl, rfl, rfl, rfl, rfl⟩ := H
  go_enter Tryd.func12, Tryd.ntmps12
  go_wp2_with (first | ((with_reducible refine gate_dst (N := 2) rfl ?_); (try (refine gate_guard (by rfl) ?_; dsimp only)); refine box_event ?hg (N := 2) ?hd (cs := #[.int .i64 0, .int .i64 0, .int .i64 0, .int .i64 0, .slice none 0 0]) (t := 24) ?hr ?_; (case hd => rfl); (case hg => rfl); (case hr => first | (go_simp; done) | (go_simp; rfl)); intro gb177 hg w3 hbox hb; have n0_ := Aside0.mk (below_step (by repeat (first | (with_reducible first | exact HB.out | apply zG | apply zE | apply zF) | exact HB.out)) hb); have n1_ := Aside0.mk (hbox); have n2_ := Aside0.mk ((by rw [hg]; exact (below_size (by repeat (first | (with_reducible first | exact HB.out | apply zG | apply zE | apply zF) | exact HB.out))) : w.heap.size ≤ gb177)); have n3_ := Aside0.mk ((by rw [hg]; exact (below_size (by repeat (first | (with_reducible first | exact HB.out | apply zG | apply zE | apply zF) | exact HB.out))) : w.heap.size ≤ gb177)); clear HB; have HB := n0_; have BK177 := n1_; have GW177 := n2_; have GE177 := n3_; clear n0_ n1_ n2_ n3_; clear hb hbox hg; have hcz4_0 : w3.cell? ⟨gb177, 0, none⟩ = some (.int .i64 0) := (blk_cell BK177.out 0).trans rfl; have hcz4_1 : w3.cell? ⟨gb177, 1, none⟩ = some (.int .i64 0) := (blk_cell BK177.out 1).trans rfl; have hcz4_2 : w3.cell? ⟨gb177, 2, none⟩ = some (.int .i64 0) := (blk_cell BK177.out 2).trans rfl; have hcz4_3 : w3.cell? ⟨gb177, 3, none⟩ = some (.int .i64 0) := (blk_cell BK177.out 3).trans rfl; have hcz4_4 : w3.cell? ⟨gb177, 4, none⟩ = some (.slice none 0 0) := (blk_cell BK177.out 4).trans rfl; have hfz4_0 := blk_frozen BK177.out 0; have hfz4_1 := blk_frozen BK177.out 1; have hfz4_2 := blk_frozen BK177.out 2; have hfz4_3 := blk_frozen BK177.out 3; have hfz4_4 := blk_frozen BK177.out 4))
  refine bodyPost_ret (results_ct rfl _ _ gb177 24 #[.int .i64 0, .int .i64 0, .int .i64 0, .int .i64 0, .slice none 0 0] (0, 0) _ rfl (by (with_reducible repeat (first | refine zI ?_ _ | refine zJ ?_ | refine zK ?_ _)); refine blk_put (cs := #[.int .i64 0, .int .i64 0, .int .i64 0, .int .i64 0, .slice none 0 0]) ?_ 4 _ rfl; (with_reducible repeat (first | refine zI ?_ _ | refine zJ ?_ | refine zK ?_ _)); refine blk_put (cs := #[.int .i64 0, .int .i64 0, .int .i64 0, .int .i64 0, .slice none 0 0]) ?_ 3 _ rfl; (with_reducible repeat (first | refine zI ?_ _ | refine zJ ?_ | refine zK ?_ _)); refine blk_put (cs := #[.int .i64 0, .int .i64 0, .int .i64 0, .int .i64 0, .slice none 0 0]) ?_ 2 _ rfl; (with_reducible repeat (first | refine zI ?_ _ | refine zJ ?_ | refine zK ?_ _)); refine blk_put (cs := #[.int .i64 0, .int .i64 0, .int .i64 0, .int .i64 0, .slice none 0 0]) ?_ 1 _ rfl; (with_reducible repeat (first | refine zI ?_ _ | refine zJ ?_ | refine zK ?_ _)); refine blk_put (cs := #[.int .i64 0, .int .i64 0, .int .i64 0, .int .i64 0, .slice none 0 0]) ?_ 0 _ rfl; (with_reducible repeat (first | refine zI ?_ _ | refine zJ ?_ | refine zK ?_ _)); exact BK177.out) Tryd.underlying24 rfl (by kernel_rfl)) rfl ?_
  exact ⟨_, by first | rfl | (simp [errW_none, errW_some] <;> rfl) | (simp [*, errW_none, errW_some] <;> rfl), by first | exact Kd.R_nil _ _ _ _ _ | exact Kd.N_nil _ _ _ _ _ | exact Kd.V_nil _ _ _ _ _ | exact Kd.Q_nil _ _ _ _ _ | exact Kd.S_nil _ _ _ _ _, by repeat (first | (with_reducible first | exact HB.out | apply zG | apply zE | apply zF | refine zH ?_ GE177.out) | exact HB.out)⟩
 ·
  rw [if_neg c2] at H
  have c2b0 : decide ((l0.length : Int) < 20) = false := decide_eq_false c2
  have c2b1 : decide (l0.length < 20) = false := decide_eq_false (by omega)
  clear c2
  have HC5 := Aside0.mk H
  clear H
  go_enter Tryd.func12, Tryd.ntmps12
  go_upto_region 3 with (first | ((with_reducible refine gate_dst (N := 2) rfl ?_); (try (refine gate_guard (by rfl) ?_; dsimp only)); refine box_event ?hg (N := 2) ?hd (cs := #[.int .i64 0, .int .i64 0, .int .i64 0, .int .i64 0, .slice none 0 0]) (t := 24) ?hr ?_; (case hd => rfl); (case hg => rfl); (case hr => first | (go_simp; done) | (go_simp; rfl)); intro gb177 hg w6 hbox hb; have n0_ := Aside0.mk (below_step (by repeat (first | (with_reducible first | exact HB.out | apply zG | apply zE | apply zF) | exact HB.out)) hb); have n1_ := Aside0.mk (hbox); have n2_ := Aside0.mk ((by rw [hg]; exact (below_size (by repeat (first | (with_reducible first | exact HB.out | apply zG | apply zE | apply zF) | exact HB.out))) : w.heap.size ≤ gb177)); have n3_ := Aside0.mk ((by rw [hg]; exact (below_size (by repeat (first | (with_reducible first | exact HB.out | apply zG | apply zE | apply zF) | exact HB.out))) : w.heap.size ≤ gb177)); clear HB; have HB := n0_; have BK177 := n1_; have GW177 := n2_; have GE177 := n3_; clear n0_ n1_ n2_ n3_; clear hb hbox hg))
  (try simp only [Act.put, zA, zB, zC])
  go_cut [37] (fun v37 wc => ∃ (kq : Nat) (x37_4 : Bool), v37 = .bool x37_4 ∧ Aside0 (plenumref1_GetIp.j0 kq l0 x37_4 = some (r1, r2, r3, r4, r5, r6)) ∧ Aside0 (kq ≤ k) ∧ Aside0 (wc.heap[gb177]? = some (.cells #[.int .i64 0, .int .i64 0, .int .i64 0, .int .i64 0, (.slice none 0 0)] 24 (0, 0))) ∧ Aside0 (Below w.heap.size w wc))
  case first =>
   have H := HC5.out
   clear HC5
   by_cases c7 : 0 < (l0.length : Int)
   ·
    rw [if_pos c7] at H
    have c7b0 : decide (0 < (l0.length : Int)) = true := decide_eq_true c7
    have c7b1 : decide (0 < l0.length) = true := decide_eq_true (by omega)
    clear c7
    (first | rw [c7b0] | (simp only [i64_w, i32_w]; rw [c7b0]) | skip)
    by_cases c8 : (rd l0 0) = 69
    ·
     rw [if_pos c8] at H
     have c8b0 : ((rd l0 0) == 69) = true := beq_iff_eq.mpr c8
     have c8b1 : ((rd l0 0) != 69) = false := bne_eq_false_iff_eq.mpr c8
     clear c8
     by_cases c9 : 1 < (l0.length : Int)
     ·
      rw [if_pos c9] at H
      have c9b0 : decide (1 < (l0.length : Int)) = true := decide_eq_true c9
      have c9b1 : decide (1 < l0.length) = true := decide_eq_true (by omega)
      clear c9
      by_cases c10 : (rd l0 1) = 0
      ·
       rw [if_pos c10] at H
       have c10b0 : ((rd l0 1) == 0) = true := beq_iff_eq.mpr c10
       have c10b1 : ((rd l0 1) != 0) = false := bne_eq_false_iff_eq.mpr c10
       clear c10
       replace H := Option.bind_eq_some_iff.mp H
       obtain ⟨t180, A110, H⟩ := H
       replace H : (if t180 = 0 then ((plenumref1_Two.f l0 2).bind fun t181 => (if t181 = (l0.length : Int) then (plenumref1_GetIp.j0 k l0 (decide ((l0.length : Int) > 1044))) else (plenumref1_GetIp.j0 k l0 true))) else (plenumref1_GetIp.j0 k l0 true)) = some (r1, r2, r3, r4, r5, r6) := H
       have A11 := Aside0.mk A110
       clear A110
       by_cases c12 : t180 = 0
       ·
        rw [if_pos c12] at H
        have c12b0 : (t180 == 0) = true := beq_iff_eq.mpr c12
        have c12b1 : (t180 != 0) = false := bne_eq_false_iff_eq.mpr c12
        clear c12
        replace H := Option.bind_eq_some_iff.mp H
        obtain ⟨t181, A130, H⟩ := H
        replace H : (if t181 = (l0.length : Int) then (plenumref1_GetIp.j0 k l0 (decide ((l0.length : Int) > 1044))) else (plenumref1_GetIp.j0 k l0 true)) = some (r1, r2, r3, r4, r5, r6) := H
        have A13 := Aside0.mk A130
        clear A130
        by_cases c14 : t181 = (l0.length : Int)
        ·
         rw [if_pos c14] at H
         have c14b0 : (t181 == (l0.length : Int)) = true := beq_iff_eq.mpr c14
         have c14b1 : (t181 != (l0.length : Int)) = false := bne_eq_false_iff_eq.mpr c14
         clear c14
         have H' := Aside0.mk H
         clear H
         have p178 : 0 ≤ (0 : Int) := (by omega)
         have q178 : 0 < (l0.length : Int) := of_decide_eq_true (by first | (with_reducible assumption) | assumption)
         obtain ⟨ad178, e178, hx178_0⟩ := Kd.at_int HR0.out 0 p178 q178
         cases e178
         have qi178 : (0 < l0.length) = True := eq_true (by omega)
         (try rw [show ((0 : Int)).toNat = 0 from rfl] at hx178_0)
         (try rw [Addr.add_zero'] at hx178_0)
         replace hx178_0 := (HB.out.cell (zD w _ hx178_0)).trans hx178_0
         replace p178 := eq_true p178
         replace q178 := eq_true q178
         have p179 : 0 ≤ (1 : Int) := (by omega)
         have q179 : 1 < (l0.length : Int) := of_decide_eq_true (by first | (with_reducible assumption) | assumption)
         obtain ⟨ad179, e179, hx179_0⟩ := Kd.at_int HR0.out 1 p179 q179
         obtain rfl : ad178 = ad179 := (by injection e179)
         (try simp only [show (1 : Int).toNat = 1 from rfl, Nat.reduceMul, Nat.reduceEqDiff, Go.Addr.add, ↓reduceIte] at hx179_0)
         have qi179 : (1 < l0.length) = True := eq_true (by omega)
         (try rw [show ((1 : Int)).toNat = 1 from rfl] at hx179_0)
         replace hx179_0 := (HB.out.cell (zD w _ hx179_0)).trans hx179_0
         replace p179 := eq_true p179
         replace q179 := eq_true q179
         go_wp2_with (first | (go_at_call 23; (with_reducible refine (plenumref1_Four.calls _ _ l0 4 t180 _ ?side1 ?side2 A11.out).mono ?_); (case side1 => repeat (first | exact (Kd.C_below HR0.out HB.out) | (with_reducible refine Kd.C_alloc ?_ _) | (with_reducible refine Kd.C_drewN ?_ _) | (with_reducible refine Kd.C_drew ?_))); (case side2 => exact HC0.out); rintro e w' ⟨rfl, ⟨nd, rfl⟩⟩) | (go_at_call 24; (with_reducible refine (plenumref1_Two.calls _ _ l0 2 t181 _ ?side1 ?side2 A13.out).mono ?_); (case side1 => repeat (first | exact (Kd.C_below HR0.out (by repeat (first | (with_reducible first | exact HB.out | apply zG | apply zE | apply zF | refine zH ?_ GE177.out) | exact HB.out))) | (with_reducible refine Kd.C_alloc ?_ _) | (with_reducible refine Kd.C_drewN ?_ _) | (with_reducible refine Kd.C_drew ?_))); (case side2 => exact HC0.out); rintro e w' ⟨rfl, ⟨nd, rfl⟩⟩))
         go_meet
         case rel => exact ⟨_, (decide ((l0.length : Int) > 1044)), (by first | rfl | (simp; done) | (simp [*]; done)), H', ⟨by first | omega | exact Nat.le_refl _⟩, ⟨by (with_reducible repeat (first | refine zI ?_ _ | refine zJ ?_ | refine zK ?_ _)); exact BK177.out⟩, ⟨by repeat (first | (with_reducible first | exact HB.out | apply zG | apply zE | apply zF | refine zH ?_ GE177.out) | exact HB.out)⟩⟩
        ·
         rw [if_neg c14] at H
         have c14b0 : (t181 == (l0.length : Int)) = false := beq_eq_false_iff_ne.mpr c14
         have c14b1 : (t181 != (l0.length : Int)) = true := bne_iff_ne.mpr c14
         have H' := Aside0.mk H
         clear H
         have p178 : 0 ≤ (0 : Int) := (by omega)
         have q178 : 0 < (l0.length : Int) := of_decide_eq_true (by first | (with_reducible assumption) | assumption)
         obtain ⟨ad178, e178, hx178_0⟩ := Kd.at_int HR0.out 0 p178 q178
         cases e178
         have qi178 : (0 < l0.length) = True := eq_true (by omega)
         (try rw [show ((0 : Int)).toNat = 0 from rfl] at hx178_0)
         (try rw [Addr.add_zero'] at hx178_0)
         replace hx178_0 := (HB.out.cell (zD w _ hx178_0)).trans hx178_0
         replace p178 := eq_true p178
         replace q178 := eq_true q178
         have p179 : 0 ≤ (1 : Int) := (by omega)
         have q179 : 1 < (l0.length : Int) := of_decide_eq_true (by first | (with_reducible assumption) | assumption)
         obtain ⟨ad179, e179, hx179_0⟩ := Kd.at_int HR0.out 1 p179 q179
         obtain rfl : ad178 = ad179 := (by injection e179)
         (try simp only [show (1 : Int).toNat = 1 from rfl, Nat.reduceMul, Nat.reduceEqDiff, Go.Addr.add, ↓reduceIte] at hx179_0)
         have qi179 : (1 < l0.length) = True := eq_true (by omega)
         (try rw [show ((1 : Int)).toNat = 1 from rfl] at hx179_0)
         replace hx179_0 := (HB.out.cell (zD w _ hx179_0)).trans hx179_0
         replace p179 := eq_true p179
         replace q179 := eq_true q179
         go_wp2_with (first | (go_at_call 23; (with_reducible refine (plenumref1_Four.calls _ _ l0 4 t180 _ ?side1 ?side2 A11.out).mono ?_); (case side1 => repeat (first | exact (Kd.C_below HR0.out HB.out) | (with_reducible refine Kd.C_alloc ?_ _) | (with_reducible refine Kd.C_drewN ?_ _) | (with_reducible refine Kd.C_drew ?_))); (case side2 => exact HC0.out); rintro e w' ⟨rfl, ⟨nd, rfl⟩⟩) | (go_at_call 24; (with_reducible refine (plenumref1_Two.calls _ _ l0 2 t181 _ ?side1 ?side2 A13.out).mono ?_); (case side1 => repeat (first | exact (Kd.C_below HR0.out (by repeat (first | (with_reducible first | exact HB.out | apply zG | apply zE | apply zF | refine zH ?_ GE177.out) | exact HB.out))) | (with_reducible refine Kd.C_alloc ?_ _) | (with_reducible refine Kd.C_drewN ?_ _) | (with_reducible refine Kd.C_drew ?_))); (case side2 => exact HC0.out); rintro e w' ⟨rfl, ⟨nd, rfl⟩⟩))
         go_meet
         case rel => exact ⟨_, (true), (by first | rfl | (simp; done) | (simp [*]; done)), H', ⟨by first | omega | exact Nat.le_refl _⟩, ⟨by (with_reducible repeat (first | refine zI ?_ _ | refine zJ ?_ | refine zK ?_ _)); exact BK177.out⟩, ⟨by repeat (first | (with_reducible first | exact HB.out | apply zG | apply zE | apply zF | refine zH ?_ GE177.out) | exact HB.out)⟩⟩
       ·
        rw [if_neg c12] at H
        have c12b0 : (t180 == 0) = false := beq_eq_false_iff_ne.mpr c12
        have c12b1 : (t180 != 0) = true := bne_iff_ne.mpr c12
        have H' := Aside0.mk H
        clear H
        have p178 : 0 ≤ (0 : Int) := (by omega)
        have q178 : 0 < (l0.length : Int) := of_decide_eq_true (by first | (with_reducible assumption) | assumption)
        obtain ⟨ad178, e178, hx178_0⟩ := Kd.at_int HR0.out 0 p178 q178
        cases e178
        have qi178 : (0 < l0.length) = True := eq_true (by omega)
        (try rw [show ((0 : Int)).toNat = 0 from rfl] at hx178_0)
        (try rw [Addr.add_zero'] at hx178_0)
        replace hx178_0 := (HB.out.cell (zD w _ hx178_0)).trans hx178_0
        replace p178 := eq_true p178
        replace q178 := eq_true q178
        have p179 : 0 ≤ (1 : Int) := (by omega)
        have q179 : 1 < (l0.length : Int) := of_decide_eq_true (by first | (with_reducible assumption) | assumption)
        obtain ⟨ad179, e179, hx179_0⟩ := Kd.at_int HR0.out 1 p179 q179
        obtain rfl : ad178 = ad179 := (by injection e179)
        (try simp only [show (1 : Int).toNat = 1 from rfl, Nat.reduceMul, Nat.reduceEqDiff, Go.Addr.add, ↓reduceIte] at hx179_0)
        have qi179 : (1 < l0.length) = True := eq_true (by omega)
        (try rw [show ((1 : Int)).toNat = 1 from rfl] at hx179_0)
        replace hx179_0 := (HB.out.cell (zD w _ hx179_0)).trans hx179_0
        replace p179 := eq_true p179
        replace q179 := eq_true q179
        go_wp2_with (first | (go_at_call 23; (with_reducible refine (plenumref1_Four.calls _ _ l0 4 t180 _ ?side1 ?side2 A11.out).mono ?_); (case side1 => repeat (first | exact (Kd.C_below HR0.out HB.out) | (with_reducible refine Kd.C_alloc ?_ _) | (with_reducible refine Kd.C_drewN ?_ _) | (with_reducible refine Kd.C_drew ?_))); (case side2 => exact HC0.out); rintro e w' ⟨rfl, ⟨nd, rfl⟩⟩))
        go_meet
        case rel => exact ⟨_, (true), (by first | rfl | (simp; done) | (simp [*]; done)), H', ⟨by first | omega | exact Nat.le_refl _⟩, ⟨by (with_reducible repeat (first | refine zI ?_ _ | refine zJ ?_ | refine zK ?_ _)); exact BK177.out⟩, ⟨by repeat (first | (with_reducible first | exact HB.out | apply zG | apply zE | apply zF | refine zH ?_ GE177.out) | exact HB.out)⟩⟩
      ·
       rw [if_neg c10] at H
       have c10b0 : ((rd l0 1) == 0) = false := beq_eq_false_iff_ne.mpr c10
       have c10b1 : ((rd l0 1) != 0) = true := bne_iff_ne.mpr c10
       have H' := Aside0.mk H
       clear H
       have p178 : 0 ≤ (0 : Int) := (by omega)
       have q178 : 0 < (l0.length : Int) := of_decide_eq_true (by first | (with_reducible assumption) | assumption)
       obtain ⟨ad178, e178, hx178_0⟩ := Kd.at_int HR0.out 0 p178 q178
       cases e178
       have qi178 : (0 < l0.length) = True := eq_true (by omega)
       (try rw [show ((0 : Int)).toNat = 0 from rfl] at hx178_0)
       (try rw [Addr.add_zero'] at hx178_0)
       replace hx178_0 := (HB.out.cell (zD w _ hx178_0)).trans hx178_0
       replace p178 := eq_true p178
       replace q178 := eq_true q178
       have p179 : 0 ≤ (1 : Int) := (by omega)
       have q179 : 1 < (l0.length : Int) := of_decide_eq_true (by first | (with_reducible assumption) | assumption)
       obtain ⟨ad179, e179, hx179_0⟩ := Kd.at_int HR0.out 1 p179 q179
       obtain rfl : ad178 = ad179 := (by injection e179)
       (try simp only [show (1 : Int).toNat = 1 from rfl, Nat.reduceMul, Nat.reduceEqDiff, Go.Addr.add, ↓reduceIte] at hx179_0)
       have qi179 : (1 < l0.length) = True := eq_true (by omega)
       (try rw [show ((1 : Int)).toNat = 1 from rfl] at hx179_0)
       replace hx179_0 := (HB.out.cell (zD w _ hx179_0)).trans hx179_0
       replace p179 := eq_true p179
       replace q179 := eq_true q179
       go_wp2
       go_meet
       case rel => exact ⟨_, (true), (by first | rfl | (simp; done) | (simp [*]; done)), H', ⟨by first | omega | exact Nat.le_refl _⟩, ⟨by (with_reducible repeat (first | refine zI ?_ _ | refine zJ ?_ | refine zK ?_ _)); exact BK177.out⟩, ⟨by repeat (first | (with_reducible first | exact HB.out | apply zG | apply zE | apply zF | refine zH ?_ GE177.out) | exact HB.out)⟩⟩
     ·
      rw [if_neg c9] at H
      exact absurd H (by simp)
    ·
     rw [if_neg c8] at H
     have c8b0 : ((rd l0 0) == 69) = false := beq_eq_false_iff_ne.mpr c8
     have c8b1 : ((rd l0 0) != 69) = true := bne_iff_ne.mpr c8
     have H' := Aside0.mk H
     clear H
     have p178 : 0 ≤ (0 : Int) := (by omega)
     have q178 : 0 < (l0.length : Int) := of_decide_eq_true (by first | (with_reducible assumption) | assumption)
     obtain ⟨ad178, e178, hx178_0⟩ := Kd.at_int HR0.out 0 p178 q178
     cases e178
     have qi178 : (0 < l0.length) = True := eq_true (by omega)
     (try rw [show ((0 : Int)).toNat = 0 from rfl] at hx178_0)
     (try rw [Addr.add_zero'] at hx178_0)
     replace hx178_0 := (HB.out.cell (zD w _ hx178_0)).trans hx178_0
     replace p178 := eq_true p178
     replace q178 := eq_true q178
     go_wp2
     go_meet
     case rel => exact ⟨_, (true), (by first | rfl | (simp; done) | (simp [*]; done)), H', ⟨by first | omega | exact Nat.le_refl _⟩, ⟨by (with_reducible repeat (first | refine zI ?_ _ | refine zJ ?_ | refine zK ?_ _)); exact BK177.out⟩, ⟨by repeat (first | (with_reducible first | exact HB.out | apply zG | apply zE | apply zF | refine zH ?_ GE177.out) | exact HB.out)⟩⟩
   ·
    rw [if_neg c7] at H
    exact absurd H (by simp)
  case rest =>
   clear HC5
   try clear c1
   try clear p1
   try clear q1
   try clear hx1
   try clear qi1
   try clear c2
   try clear c2b0
   try clear c2b1
   try clear p2
   try clear c7
   try clear c7b0
   try clear c7b1
   try clear c8
   try clear c8b0
   try clear c8b1
   try clear c9
   try clear c9b0
   try clear c9b1
   try clear c10
   try clear c10b0
   try clear c10b1
   try clear c12
   try clear c12b0
   try clear c12b1
   try clear c14
   try clear c14b0
   try clear c14b1
   try clear hcz4_0
   try clear hcz4_1
   try clear hcz4_2
   try clear hcz4_3
   try clear hcz4_4
   try clear hfz4_0
   try clear hfz4_1
   try clear hfz4_2
   try clear hfz4_3
   try clear hfz4_4
   try clear hx178_0
   try clear hx179_0
   try clear p178
   try clear p179
   try clear q178
   try clear q179
   obtain ⟨kq, x37_4, rfl, HA, HJ4, BK177, HB⟩ := hcut
   cases kq with
   | zero => exact absurd HA.out (by simp [plenumref1_GetIp.j0])
   | succ kj4 =>
    have H := HA.out
    clear HA
    simp only [plenumref1_GetIp.j0] at H
    by_cases c15 : x37_4 = true
    ·
     subst c15
     have H1 : (some (0, 0, 0, 0, ([] : List Int), 3)) = some (r1, r2, r3, r4, r5, r6) := by rw [if_pos rfl] at H; exact H
     clear H
     have H := H1
     clear H1
     simp only [Option.some.injEq, Prod.mk.injEq] at H
     obtain ⟨rfl, rfl, rfl, rfl, rfl, rfl⟩ := H
     have hcz16_0 : wc.cell? ⟨gb177, 0, none⟩ = some (.int .i64 0) := (blk_cell BK177.out 0).trans rfl
     have hcz16_1 : wc.cell? ⟨gb177, 1, none⟩ = some (.int .i64 0) := (blk_cell BK177.out 1).trans rfl
     have hcz16_2 : wc.cell? ⟨gb177, 2, none⟩ = some (.int .i64 0) := (blk_cell BK177.out 2).trans rfl
     have hcz16_3 : wc.cell? ⟨gb177, 3, none⟩ = some (.int .i64 0) := (blk_cell BK177.out 3).trans rfl
     have hcz16_4 : wc.cell? ⟨gb177, 4, none⟩ = some (.slice none 0 0) := (blk_cell BK177.out 4).trans rfl
     have hfz16_0 := blk_frozen BK177.out 0
     have hfz16_1 := blk_frozen BK177.out 1
     have hfz16_2 := blk_frozen BK177.out 2
     have hfz16_3 := blk_frozen BK177.out 3
     have hfz16_4 := blk_frozen BK177.out 4
     go_wp2
     refine bodyPost_ret (results_ct rfl _ _ gb177 24 #[.int .i64 0, .int .i64 0, .int .i64 0, .int .i64 0, .slice none 0 0] (0, 0) _ rfl (by (with_reducible repeat (first | refine zI ?_ _ | refine zJ ?_ | refine zK ?_ _)); refine blk_put (cs := #[.int .i64 0, .int .i64 0, .int .i64 0, .int .i64 0, .slice none 0 0]) ?_ 4 _ rfl; (with_reducible repeat (first | refine zI ?_ _ | refine zJ ?_ | refine zK ?_ _)); refine blk_put (cs := #[.int .i64 0, .int .i64 0, .int .i64 0, .int .i64 0, .slice none 0 0]) ?_ 3 _ rfl; (with_reducible repeat (first | refine zI ?_ _ | refine zJ ?_ | refine zK ?_ _)); refine blk_put (cs := #[.int .i64 0, .int .i64 0, .int .i64 0, .int .i64 0, .slice none 0 0]) ?_ 2 _ rfl; (with_reducible repeat (first | refine zI ?_ _ | refine zJ ?_ | refine zK ?_ _)); refine blk_put (cs := #[.int .i64 0, .int .i64 0, .int .i64 0, .int .i64 0, .slice none 0 0]) ?_ 1 _ rfl; (with_reducible repeat (first | refine zI ?_ _ | refine zJ ?_ | refine zK ?_ _)); refine blk_put (cs := #[.int .i64 0, .int .i64 0, .int .i64 0, .int .i64 0, .slice none 0 0]) ?_ 0 _ rfl; (with_reducible repeat (first | refine zI ?_ _ | refine zJ ?_ | refine zK ?_ _)); exact BK177.out) Tryd.underlying24 rfl (by kernel_rfl)) rfl ?_
     exact ⟨_, by first | rfl | (simp [errW_none, errW_some] <;> rfl) | (simp [*, errW_none, errW_some] <;> rfl), by first | exact Kd.R_nil _ _ _ _ _ | exact Kd.N_nil _ _ _ _ _ | exact Kd.V_nil _ _ _ _ _ | exact Kd.Q_nil _ _ _ _ _ | exact Kd.S_nil _ _ _ _ _, by repeat (first | (with_reducible first | exact HB.out | apply zG | apply zE | apply zF | refine zH ?_ GE177.out) | exact HB.out)⟩
    ·
     replace c15 := Bool.eq_false_iff.mpr c15
     subst c15
     have H1 : (if 8 < (l0.length : Int) then (if 9 < (l0.length : Int) then ((plenumref1_Four.f l0 12).bind fun t184 => ((plenumref1_Four.f l0 16).bind fun t185 => ((some (([] : List Int) : List Int)).bind fun y186 => (if 20 ≤ (l0.length : Int) then (if y186.length + (l0.drop 20).length < 140737488355328 then ((some (y186 ++ (l0.drop 20) : List Int)).bind fun y190 => ((plenumref1_PutIp.f kj4 (wrap64 (rd l0 8)) (wrap64 (rd l0 9)) t184 t185 y190).bind fun bt194 => (if (strOfNums bt194.1).toList = (strOfNums l0).toList then (some (wrap64 (rd l0 8), wrap64 (rd l0 9), t184, t185, y190, 0)) else (some (0, 0, 0, 0, ([] : List Int), 4))))) else (none)) else (none))))) else (none)) else (none)) = some (r1, r2, r3, r4, r5, r6) := by rw [if_neg (show ¬ (false = true) by decide)] at H; exact H
     clear H
     have H := H1
     clear H1
     by_cases c17 : 8 < (l0.length : Int)
     ·
      rw [if_pos c17] at H
      have c17b0 : decide (8 < (l0.length : Int)) = true := decide_eq_true c17
      have c17b1 : decide (8 < l0.length) = true := decide_eq_true (by omega)
      clear c17
      by_cases c18 : 9 < (l0.length : Int)
      ·
       rw [if_pos c18] at H
       have c18b0 : decide (9 < (l0.length : Int)) = true := decide_eq_true c18
       have c18b1 : decide (9 < l0.length) = true := decide_eq_true (by omega)
       clear c18
       replace H := Option.bind_eq_some_iff.mp H
       obtain ⟨t184, A190, H⟩ := H
       replace H : ((plenumref1_Four.f l0 16).bind fun t185 => ((some (([] : List Int) : List Int)).bind fun y186 => (if 20 ≤ (l0.length : Int) then (if y186.length + (l0.drop 20).length < 140737488355328 then ((some (y186 ++ (l0.drop 20) : List Int)).bind fun y190 => ((plenumref1_PutIp.f kj4 (wrap64 (rd l0 8)) (wrap64 (rd l0 9)) t184 t185 y190).bind fun bt194 => (if (strOfNums bt194.1).toList = (strOfNums l0).toList then (some (wrap64 (rd l0 8), wrap64 (rd l0 9), t184, t185, y190, 0)) else (some (0, 0, 0, 0, ([] : List Int), 4))))) else (none)) else (none)))) = some (r1, r2, r3, r4, r5, r6) := H
       have A19 := Aside0.mk A190
       clear A190
       replace H := Option.bind_eq_some_iff.mp H
       obtain ⟨t185, A200, H⟩ := H
       replace H : ((some (([] : List Int) : List Int)).bind fun y186 => (if 20 ≤ (l0.length : Int) then (if y186.length + (l0.drop 20).length < 140737488355328 then ((some (y186 ++ (l0.drop 20) : List Int)).bind fun y190 => ((plenumref1_PutIp.f kj4 (wrap64 (rd l0 8)) (wrap64 (rd l0 9)) t184 t185 y190).bind fun bt194 => (if (strOfNums bt194.1).toList = (strOfNums l0).toList then (some (wrap64 (rd l0 8), wrap64 (rd l0 9), t184, t185, y190, 0)) else (some (0, 0, 0, 0, ([] : List Int), 4))))) else (none)) else (none))) = some (r1, r2, r3, r4, r5, r6) := H
       have A20 := Aside0.mk A200
       clear A200
       obtain ⟨y186, hy186⟩ : ∃ y_ : List Int, y_ = (([] : List Int)) := ⟨_, rfl⟩
       replace H : (if 20 ≤ (l0.length : Int) then (if y186.length + (l0.drop 20).length < 140737488355328 then ((some (y186 ++ (l0.drop 20) : List Int)).bind fun y190 => ((plenumref1_PutIp.f kj4 (wrap64 (rd l0 8)) (wrap64 (rd l0 9)) t184 t185 y190).bind fun bt194 => (if (strOfNums bt194.1).toList = (strOfNums l0).toList then (some (wrap64 (rd l0 8), wrap64 (rd l0 9), t184, t185, y190, 0)) else (some (0, 0, 0, 0, ([] : List Int), 4))))) else (none)) else (none)) = some (r1, r2, r3, r4, r5, r6) := by first | (rw [hy186]; with_reducible exact H) | (have H2_ := (Option.bind_some _ _).symm.trans H; rw [hy186]; with_reducible exact H2_) | (have H2_ := (Option.bind_some _ _).symm.trans H; with_reducible exact H2_) | with_reducible exact H | (rw [hy186]; exact H) | exact H
       have Ny186 := Aside0.mk hy186
       clear hy186
       by_cases c21 : 20 ≤ (l0.length : Int)
       ·
        rw [if_pos c21] at H
        have c21b0 := eq_true c21
        have c21b1 : decide (20 ≤ (l0.length : Int)) = true := decide_eq_true c21
        clear c21
        by_cases c22 : y186.length + (l0.drop 20).length < 140737488355328
        ·
         rw [if_pos c22] at H
         have LMc22 := Aside0.mk c22
         clear c22
         obtain ⟨y190, hy190⟩ : ∃ y_ : List Int, y_ = (y186 ++ (l0.drop 20)) := ⟨_, rfl⟩
         replace H : ((plenumref1_PutIp.f kj4 (wrap64 (rd l0 8)) (wrap64 (rd l0 9)) t184 t185 y190).bind fun bt194 => (if (strOfNums bt194.1).toList = (strOfNums l0).toList then (some (wrap64 (rd l0 8), wrap64 (rd l0 9), t184, t185, y190, 0)) else (some (0, 0, 0, 0, ([] : List Int), 4)))) = some (r1, r2, r3, r4, r5, r6) := by first | (rw [hy190]; with_reducible exact H) | (have H2_ := (Option.bind_some _ _).symm.trans H; rw [hy190]; with_reducible exact H2_) | (have H2_ := (Option.bind_some _ _).symm.trans H; with_reducible exact H2_) | with_reducible exact H | (rw [hy190]; exact H) | exact H
         have Ny190 := Aside0.mk hy190
         clear hy190
         replace H := Option.bind_eq_some_iff.mp H
         obtain ⟨⟨t194, t197⟩, A230, H⟩ := H
         replace H : (if (strOfNums t194).toList = (strOfNums l0).toList then (some (wrap64 (rd l0 8), wrap64 (rd l0 9), t184, t185, y190, 0)) else (some (0, 0, 0, 0, ([] : List Int), 4))) = some (r1, r2, r3, r4, r5, r6) := H
         have A23 := Aside0.mk A230
         clear A230
         by_cases c24 : (strOfNums t194).toList = (strOfNums l0).toList
         ·
          rw [if_pos c24] at H
          have c24b0 : ((strOfNums t194).toList == (strOfNums l0).toList) = true := beq_iff_eq.mpr c24
          have c24b1 : ((strOfNums t194).toList != (strOfNums l0).toList) = false := bne_eq_false_iff_eq.mpr c24
          clear c24
          simp only [Option.some.injEq, Prod.mk.injEq] at H
          obtain ⟨rfl, rfl, rfl, rfl, rfl, rfl⟩ := H
          try go_wp2
          have n0_ := Aside0.mk (zJ BK177.out)
          have n1_ := Aside0.mk (zF HB.out)
          clear BK177
          clear HB
          have BK177 := n0_
          have HB := n1_
          clear n0_ n1_
          have p182 : 0 ≤ (8 : Int) := (by omega)
          have q182 : 8 < (l0.length : Int) := of_decide_eq_true (by first | (with_reducible assumption) | assumption)
          obtain ⟨ad182, e182, hx182_0⟩ := Kd.at_int HR0.out 8 p182 q182
          have hw182_0 := hx182_0
          (try rw [show ((8 : Int)).toNat = 8 from rfl] at hw182_0)
          (try rw [show 8 * 1 = 8 from rfl] at hw182_0)
          (try simp only [Nat.reduceMul, Nat.reduceEqDiff, Go.Addr.add, ↓reduceIte] at hw182_0)
          cases e182
          (try simp only [show (8 : Int).toNat = 8 from rfl, Nat.reduceMul, Nat.reduceEqDiff, Go.Addr.add, ↓reduceIte] at hx182_0)
          have qi182 : (8 < l0.length) = True := eq_true (by omega)
          (try rw [show ((8 : Int)).toNat = 8 from rfl] at hx182_0)
          replace hx182_0 := (HB.out.cell (zD w _ hx182_0)).trans hx182_0
          replace p182 := eq_true p182
          replace q182 := eq_true q182
          have p183 : 0 ≤ (9 : Int) := (by omega)
          have q183 : 9 < (l0.length : Int) := of_decide_eq_true (by first | (with_reducible assumption) | assumption)
          obtain ⟨ad183, e183, hx183_0⟩ := Kd.at_int HR0.out 9 p183 q183
          have hw183_0 := hx183_0
          (try rw [show ((9 : Int)).toNat = 9 from rfl] at hw183_0)
          (try rw [show 9 * 1 = 9 from rfl] at hw183_0)
          (try simp only [Nat.reduceMul, Nat.reduceEqDiff, Go.Addr.add, ↓reduceIte] at hw183_0)
          obtain rfl : ad182 = ad183 := (by injection e183)
          (try simp only [show (9 : Int).toNat = 9 from rfl, Nat.reduceMul, Nat.reduceEqDiff, Go.Addr.add, ↓reduceIte] at hx183_0)
          have qi183 : (9 < l0.length) = True := eq_true (by omega)
          (try rw [show ((9 : Int)).toNat = 9 from rfl] at hx183_0)
          replace hx183_0 := (HB.out.cell (zD w _ hx183_0)).trans hx183_0
          replace p183 := eq_true p183
          replace q183 := eq_true q183
          obtain ⟨i026, hi026, _, hsz26, _⟩ := info_parts info5
          obtain ⟨A26, hcut26, hA26, hC26⟩ := print_drop_of (P := Tryd.prog) (Value.int .u8) 0 22 5 .i64 Tryd.underlying22 hi026 hsz26 (some ad182) c0 l0 20 (by omega) (of_decide_eq_true (by first | (with_reducible assumption) | assumption)) HC0.out
          have HR189 := Aside0.mk (Kd.C_of_reads (h1 := fun _ => rfl) (hA26 _ (Kd.reads_of_C HR0.out)))
          have HC189 := Aside0.mk hC26
          clear hA26 hC26 hi026 hsz26
          refine start_ (n := 19) (S := fun w' => w'.cell? ⟨ad182.block, ad182.off + 8, none⟩ = some (.int .u8 (rd l0 8)) ∧ w'.cell? ⟨ad182.block, ad182.off + 9, none⟩ = some (.int .u8 (rd l0 9))) (ds := []) #[false, false, false, false, false, false, false, false, false, false, false, false, false, false, false, false, false, false, false] (by kernel_rfl) rfl rfl ⟨((HB.out.cell (zD w _ hw182_0)).trans hw182_0), ((HB.out.cell (zD w _ hw183_0)).trans hw183_0)⟩ (fun hHeld => ?_); refine with_tabW plenumref1_GetIp.tab5 plenumref1_GetIp.bits5 (fun HT_ HW_ => ?_)
          generalize wc.drew = w25 at BK177 HB HR189 hx182_0 hx183_0 hHeld ⊢
          refine pure_ (i := 0) (N := some 39) (v := ?_) (a' := ?_) #[true, false, false, false, false, false, false, false, false, false, false, false, false, false, false, false, false, false, false] rfl rfl (any_of HT_.out (by kernel_rfl)) (fun _ _ _ h => h) (Or.inl ⟨by rfl, ?_⟩) ?_ ?_
          rotate_left
          ·
           intro w'
           go_simp
           with_reducible rfl
          rotate_left
          ·
           simp only [Act.put, zA, zB, zC, i64_w, i32_w]
           rfl
          refine pure_ (i := 1) (N := some 40) (v := ?_) (a' := ?_) #[true, true, false, false, false, false, false, false, false, false, false, false, false, false, false, false, false, false, false] rfl rfl (any_of HT_.out (by kernel_rfl)) (fun _ _ _ h => h) (Or.inl ⟨by rfl, ?_⟩) ?_ ?_
          rotate_left
          ·
           intro w'
           go_simp
           with_reducible rfl
          rotate_left
          ·
           simp only [Act.put, zA, zB, zC, i64_w, i32_w]
           rfl
          refine pure_ (i := 4) (N := some 43) (v := ?_) (a' := ?_) #[true, true, false, false, true, false, false, false, false, false, false, false, false, false, false, false, false, false, false] rfl rfl (any_of HT_.out (by kernel_rfl)) (fun _ _ _ h => h) (Or.inl ⟨by rfl, ?_⟩) ?_ ?_
          rotate_left
          ·
           intro w'
           go_simp
           with_reducible rfl
          rotate_left
          ·
           simp only [Act.put, zA, zB, zC, i64_w, i32_w]
           rfl
          refine pure_ (i := 5) (N := some 44) (v := ?_) (a' := ?_) #[true, true, false, false, true, true, false, false, false, false, false, false, false, false, false, false, false, false, false] rfl rfl (any_of HT_.out (by kernel_rfl)) (fun _ _ _ h => h) (Or.inl ⟨by rfl, ?_⟩) ?_ ?_
          rotate_left
          ·
           intro w'
           go_simp
           with_reducible rfl
          rotate_left
          ·
           simp only [Act.put, zA, zB, zC, i64_w, i32_w]
           rfl
          refine pure_ (i := 8) (N := some 47) (v := ?_) (a' := ?_) #[true, true, false, false, true, true, false, false, true, false, false, false, false, false, false, false, false, false, false] rfl rfl (any_of HT_.out (by kernel_rfl)) (fun _ _ _ h => h) (Or.inl ⟨by rfl, ?_⟩) ?_ ?_
          rotate_left
          ·
           intro w'
           go_simp
           with_reducible rfl
          rotate_left
          ·
           simp only [Act.put, zA, zB, zC, i64_w, i32_w]
           rfl
          refine pure_ (i := 10) (N := some 49) (v := ?_) (a' := ?_) #[true, true, false, false, true, true, false, false, true, false, true, false, false, false, false, false, false, false, false] rfl rfl (any_of HT_.out (by kernel_rfl)) (fun _ _ _ h => h) (Or.inl ⟨by rfl, ?_⟩) ?_ ?_
          rotate_left
          ·
           intro w'
           go_simp
           with_reducible rfl
          rotate_left
          ·
           simp only [Act.put, zA, zB, zC, i64_w, i32_w]
           rfl
          refine pure_ (i := 13) (N := some 52) (v := ?_) (a' := ?_) #[true, true, false, false, true, true, false, false, true, false, true, false, false, true, false, false, false, false, false] rfl rfl (any_of HT_.out (by kernel_rfl)) (fun _ _ _ h => h) (Or.inl ⟨by rfl, ?_⟩) ?_ ?_
          rotate_left
          ·
           intro w'
           go_simp
           with_reducible rfl
          rotate_left
          ·
           simp only [Act.put, zA, zB, zC, i64_w, i32_w]
           rfl
          refine pure_ (i := 14) (N := some 53) (v := ?_) (a' := ?_) #[true, true, false, false, true, true, false, false, true, false, true, false, false, true, true, false, false, false, false] rfl rfl (any_of HT_.out (by kernel_rfl)) (fun _ _ _ h => h) (Or.inl ⟨by rfl, ?_⟩) ?_ ?_
          rotate_left
          ·
           intro w'
           go_simp
           with_reducible rfl
          rotate_left
          ·
           simp only [Act.put, zA, zB, zC, i64_w, i32_w]
           rfl
          refine take_ (i := 2) (N := some 41) (v := ?_) (a' := ?_) #[true, true, true, false, true, true, false, false, true, false, true, false, false, true, true, false, false, false, false] rfl rfl (take_ofW HT_.out HW_.out (by kernel_rfl)) (fun _ _ _ h => h) (Or.inl ⟨by rfl, ?_⟩) hHeld ?_ ?_
          rotate_left
          ·
           rintro w' ⟨s0, s1⟩
           go_simp
           with_reducible rfl
          rotate_left
          ·
           simp only [Act.put, zA, zB, zC, i64_w, i32_w]
           rfl
          refine pure_ (i := 3) (N := some 42) (v := ?_) (a' := ?_) #[true, true, true, true, true, true, false, false, true, false, true, false, false, true, true, false, false, false, false] rfl rfl (any_of HT_.out (by kernel_rfl)) (fun _ _ _ h => h) (Or.inl ⟨by rfl, ?_⟩) ?_ ?_
          rotate_left
          ·
           intro w'
           go_simp
           with_reducible rfl
          rotate_left
          ·
           simp only [Act.put, zA, zB, zC, i64_w, i32_w]
           rfl
          refine take_ (i := 6) (N := some 45) (v := ?_) (a' := ?_) #[true, true, true, true, true, true, true, false, true, false, true, false, false, true, true, false, false, false, false] rfl rfl (take_ofW HT_.out HW_.out (by kernel_rfl)) (fun _ _ _ h => h) (Or.inl ⟨by rfl, ?_⟩) hHeld ?_ ?_
          rotate_left
          ·
           rintro w' ⟨s0, s1⟩
           go_simp
           with_reducible rfl
          rotate_left
          ·
           simp only [Act.put, zA, zB, zC, i64_w, i32_w]
           rfl
          refine pure_ (i := 7) (N := some 46) (v := ?_) (a' := ?_) #[true, true, true, true, true, true, true, true, true, false, true, false, false, true, true, false, false, false, false] rfl rfl (any_of HT_.out (by kernel_rfl)) (fun _ _ _ h => h) (Or.inl ⟨by rfl, ?_⟩) ?_ ?_
          rotate_left
          ·
           intro w'
           go_simp
           with_reducible rfl
          rotate_left
          ·
           simp only [Act.put, zA, zB, zC, i64_w, i32_w]
           rfl
          refine join_ (σ := Value × Value × Nat) 1 #[true, true, true, true, true, true, true, true, true, true, true, true, true, true, true, true, true, true, false] (fun s_ => [(48, .int .i64 t184), (50, .int .i64 t185), (51, s_.1), (54, s_.2.1), (4, .pointer (some ⟨s_.2.2, 0, none⟩)), (55, .agg #[.int .i64 (wrap64 (rd l0 8)), .int .i64 (wrap64 (rd l0 9)), .int .i64 t184, .int .i64 t185, s_.2.1])]) (fun s_ w' => (w'.cell? ⟨ad182.block, ad182.off + 8, none⟩ = some (.int .u8 (rd l0 8)) ∧ w'.cell? ⟨ad182.block, ad182.off + 9, none⟩ = some (.int .u8 (rd l0 9))) ∧ (Kd.R (Kd.int .u8) 5 w' w.heap.size (fun _ => True) s_.2.1 y190) ∧ (w'.heap[gb177]? = some (.cells #[.int .i64 0, .int .i64 0, .int .i64 0, .int .i64 0, .slice none 0 0] 24 (0, 0))) ∧ (w'.heap[s_.2.2]? = some (.cells #[.int .i64 0, .int .i64 0, .int .i64 0, .int .i64 0, .slice none 0 0] 24 (0, 0))) ∧ (w.heap.size ≤ s_.2.2) ∧ (w.heap.size ≤ s_.2.2) ∧ (gb177 ≠ s_.2.2) ∧ (s_.2.2 ≠ gb177) ∧ (Below w.heap.size w w')) ?_ ?_
          rotate_left
          ·
           intro hJ9_11_12_15_17
           refine join_ (σ := Value × Value) 2 #[true, true, true, true, true, true, true, true, true, true, true, true, true, true, true, true, true, false, false] (fun s_ => [(48, .int .i64 t184), (50, .int .i64 t185), (51, s_.1), (54, s_.2), (55, .agg #[.int .i64 (wrap64 (rd l0 8)), .int .i64 (wrap64 (rd l0 9)), .int .i64 t184, .int .i64 t185, s_.2])]) (fun s_ w' => (w'.cell? ⟨ad182.block, ad182.off + 8, none⟩ = some (.int .u8 (rd l0 8)) ∧ w'.cell? ⟨ad182.block, ad182.off + 9, none⟩ = some (.int .u8 (rd l0 9))) ∧ (Kd.R (Kd.int .u8) 5 w' w.heap.size (fun _ => True) s_.2 y190) ∧ (w'.heap[gb177]? = some (.cells #[.int .i64 0, .int .i64 0, .int .i64 0, .int .i64 0, .slice none 0 0] 24 (0, 0))) ∧ (Below w.heap.size w w')) ?_ ?_
           rotate_left
           ·
            intro hJ9_11_12_15
            refine join_ (σ := Value × Nat) 3 #[true, true, true, true, true, true, true, true, true, true, true, true, true, true, true, false, false, true, false] (fun s_ => [(48, .int .i64 t184), (50, .int .i64 t185), (51, s_.1), (4, .pointer (some ⟨s_.2, 0, none⟩))]) (fun s_ w' => (w'.cell? ⟨ad182.block, ad182.off + 8, none⟩ = some (.int .u8 (rd l0 8)) ∧ w'.cell? ⟨ad182.block, ad182.off + 9, none⟩ = some (.int .u8 (rd l0 9))) ∧ (Kd.R (Kd.int .u8) 5 w' w.heap.size (fun _ => True) s_.1 y186) ∧ (w'.heap[gb177]? = some (.cells #[.int .i64 0, .int .i64 0, .int .i64 0, .int .i64 0, .slice none 0 0] 24 (0, 0))) ∧ (w'.heap[s_.2]? = some (.cells #[.int .i64 0, .int .i64 0, .int .i64 0, .int .i64 0, .slice none 0 0] 24 (0, 0))) ∧ (w.heap.size ≤ s_.2) ∧ (w.heap.size ≤ s_.2) ∧ (gb177 ≠ s_.2) ∧ (s_.2 ≠ gb177) ∧ (Below w.heap.size w w')) ?_ ?_
            rotate_left
            ·
             intro hJ9_11_12_17
             refine join_ (σ := Value) 4 #[true, true, true, true, true, true, true, true, true, true, true, true, true, true, true, false, false, false, false] (fun s_ => [(48, .int .i64 t184), (50, .int .i64 t185), (51, s_)]) (fun s_ w' => (w'.cell? ⟨ad182.block, ad182.off + 8, none⟩ = some (.int .u8 (rd l0 8)) ∧ w'.cell? ⟨ad182.block, ad182.off + 9, none⟩ = some (.int .u8 (rd l0 9))) ∧ (Kd.R (Kd.int .u8) 5 w' w.heap.size (fun _ => True) s_ y186) ∧ (w'.heap[gb177]? = some (.cells #[.int .i64 0, .int .i64 0, .int .i64 0, .int .i64 0, .slice none 0 0] 24 (0, 0))) ∧ (Below w.heap.size w w')) ?_ ?_
             rotate_left
             ·
              intro hJ9_11_12
              refine join_ (σ := Nat) 4 #[true, true, true, true, true, true, true, true, true, true, true, true, false, true, true, false, false, true, false] (fun s_ => [(48, .int .i64 t184), (50, .int .i64 t185), (4, .pointer (some ⟨s_, 0, none⟩))]) (fun s_ w' => (w'.cell? ⟨ad182.block, ad182.off + 8, none⟩ = some (.int .u8 (rd l0 8)) ∧ w'.cell? ⟨ad182.block, ad182.off + 9, none⟩ = some (.int .u8 (rd l0 9))) ∧ (w'.heap[gb177]? = some (.cells #[.int .i64 0, .int .i64 0, .int .i64 0, .int .i64 0, .slice none 0 0] 24 (0, 0))) ∧ (w'.heap[s_]? = some (.cells #[.int .i64 0, .int .i64 0, .int .i64 0, .int .i64 0, .slice none 0 0] 24 (0, 0))) ∧ (w.heap.size ≤ s_) ∧ (w.heap.size ≤ s_) ∧ (gb177 ≠ s_) ∧ (s_ ≠ gb177) ∧ (Below w.heap.size w w')) ?_ ?_
              rotate_left
              ·
               intro hJ9_11_17
               refine join_ (σ := Value × Nat) 4 #[true, true, true, true, true, true, true, true, true, true, true, false, true, true, true, false, false, true, false] (fun s_ => [(48, .int .i64 t184), (51, s_.1), (4, .pointer (some ⟨s_.2, 0, none⟩))]) (fun s_ w' => (w'.cell? ⟨ad182.block, ad182.off + 8, none⟩ = some (.int .u8 (rd l0 8)) ∧ w'.cell? ⟨ad182.block, ad182.off + 9, none⟩ = some (.int .u8 (rd l0 9))) ∧ (Kd.R (Kd.int .u8) 5 w' w.heap.size (fun _ => True) s_.1 y186) ∧ (w'.heap[gb177]? = some (.cells #[.int .i64 0, .int .i64 0, .int .i64 0, .int .i64 0, .slice none 0 0] 24 (0, 0))) ∧ (w'.heap[s_.2]? = some (.cells #[.int .i64 0, .int .i64 0, .int .i64 0, .int .i64 0, .slice none 0 0] 24 (0, 0))) ∧ (w.heap.size ≤ s_.2) ∧ (w.heap.size ≤ s_.2) ∧ (gb177 ≠ s_.2) ∧ (s_.2 ≠ gb177) ∧ (Below w.heap.size w w')) ?_ ?_
               rotate_left
               ·
                intro hJ9_12_17
                refine join_ (σ := Unit) 5 #[true, true, true, true, true, true, true, true, true, true, true, true, false, true, true, false, false, false, false] (fun s_ => [(48, .int .i64 t184), (50, .int .i64 t185)]) (fun s_ w' => (w'.cell? ⟨ad182.block, ad182.off + 8, none⟩ = some (.int .u8 (rd l0 8)) ∧ w'.cell? ⟨ad182.block, ad182.off + 9, none⟩ = some (.int .u8 (rd l0 9))) ∧ (w'.heap[gb177]? = some (.cells #[.int .i64 0, .int .i64 0, .int .i64 0, .int .i64 0, .slice none 0 0] 24 (0, 0))) ∧ (Below w.heap.size w w')) ?_ ?_
                rotate_left
                ·
                 intro hJ9_11
                 refine join_ (σ := Value) 5 #[true, true, true, true, true, true, true, true, true, true, true, false, true, true, true, false, false, false, false] (fun s_ => [(48, .int .i64 t184), (51, s_)]) (fun s_ w' => (w'.cell? ⟨ad182.block, ad182.off + 8, none⟩ = some (.int .u8 (rd l0 8)) ∧ w'.cell? ⟨ad182.block, ad182.off + 9, none⟩ = some (.int .u8 (rd l0 9))) ∧ (Kd.R (Kd.int .u8) 5 w' w.heap.size (fun _ => True) s_ y186) ∧ (w'.heap[gb177]? = some (.cells #[.int .i64 0, .int .i64 0, .int .i64 0, .int .i64 0, .slice none 0 0] 24 (0, 0))) ∧ (Below w.heap.size w w')) ?_ ?_
                 rotate_left
                 ·
                  intro hJ9_12
                  refine join_ (σ := Nat) 5 #[true, true, true, true, true, true, true, true, true, true, true, false, false, true, true, false, false, true, false] (fun s_ => [(48, .int .i64 t184), (4, .pointer (some ⟨s_, 0, none⟩))]) (fun s_ w' => (w'.cell? ⟨ad182.block, ad182.off + 8, none⟩ = some (.int .u8 (rd l0 8)) ∧ w'.cell? ⟨ad182.block, ad182.off + 9, none⟩ = some (.int .u8 (rd l0 9))) ∧ (w'.heap[gb177]? = some (.cells #[.int .i64 0, .int .i64 0, .int .i64 0, .int .i64 0, .slice none 0 0] 24 (0, 0))) ∧ (w'.heap[s_]? = some (.cells #[.int .i64 0, .int .i64 0, .int .i64 0, .int .i64 0, .slice none 0 0] 24 (0, 0))) ∧ (w.heap.size ≤ s_) ∧ (w.heap.size ≤ s_) ∧ (gb177 ≠ s_) ∧ (s_ ≠ gb177) ∧ (Below w.heap.size w w')) ?_ ?_
                  rotate_left
                  ·
                   intro hJ9_17
                   refine join_ (σ := Value × Nat) 5 #[true, true, true, true, true, true, true, true, true, false, true, false, true, true, true, false, false, true, false] (fun s_ => [(51, s_.1), (4, .pointer (some ⟨s_.2, 0, none⟩))]) (fun s_ w' => (w'.cell? ⟨ad182.block, ad182.off + 8, none⟩ = some (.int .u8 (rd l0 8)) ∧ w'.cell? ⟨ad182.block, ad182.off + 9, none⟩ = some (.int .u8 (rd l0 9))) ∧ (Kd.R (Kd.int .u8) 5 w' w.heap.size (fun _ => True) s_.1 y186) ∧ (w'.heap[gb177]? = some (.cells #[.int .i64 0, .int .i64 0, .int .i64 0, .int .i64 0, .slice none 0 0] 24 (0, 0))) ∧ (w'.heap[s_.2]? = some (.cells #[.int .i64 0, .int .i64 0, .int .i64 0, .int .i64 0, .slice none 0 0] 24 (0, 0))) ∧ (w.heap.size ≤ s_.2) ∧ (w.heap.size ≤ s_.2) ∧ (gb177 ≠ s_.2) ∧ (s_.2 ≠ gb177) ∧ (Below w.heap.size w w')) ?_ ?_
                   rotate_left
                   ·
                    intro hJ12_17
                    refine join_ (σ := Unit) 6 #[true, true, true, true, true, true, true, true, true, true, true, false, false, true, true, false, false, false, false] (fun s_ => [(48, .int .i64 t184)]) (fun s_ w' => (w'.cell? ⟨ad182.block, ad182.off + 8, none⟩ = some (.int .u8 (rd l0 8)) ∧ w'.cell? ⟨ad182.block, ad182.off + 9, none⟩ = some (.int .u8 (rd l0 9))) ∧ (w'.heap[gb177]? = some (.cells #[.int .i64 0, .int .i64 0, .int .i64 0, .int .i64 0, .slice none 0 0] 24 (0, 0))) ∧ (Below w.heap.size w w')) ?_ ?_
                    rotate_left
                    ·
                     intro hJ9
                     refine join_ (σ := Value) 6 #[true, true, true, true, true, true, true, true, true, false, true, false, true, true, true, false, false, false, false] (fun s_ => [(51, s_)]) (fun s_ w' => (w'.cell? ⟨ad182.block, ad182.off + 8, none⟩ = some (.int .u8 (rd l0 8)) ∧ w'.cell? ⟨ad182.block, ad182.off + 9, none⟩ = some (.int .u8 (rd l0 9))) ∧ (Kd.R (Kd.int .u8) 5 w' w.heap.size (fun _ => True) s_ y186) ∧ (w'.heap[gb177]? = some (.cells #[.int .i64 0, .int .i64 0, .int .i64 0, .int .i64 0, .slice none 0 0] 24 (0, 0))) ∧ (Below w.heap.size w w')) ?_ ?_
                     rotate_left
                     ·
                      intro hJ12
                      refine join_ (σ := Nat) 6 #[true, true, true, true, true, true, true, true, true, false, true, false, false, true, true, false, false, true, false] (fun s_ => [(4, .pointer (some ⟨s_, 0, none⟩))]) (fun s_ w' => (w'.cell? ⟨ad182.block, ad182.off + 8, none⟩ = some (.int .u8 (rd l0 8)) ∧ w'.cell? ⟨ad182.block, ad182.off + 9, none⟩ = some (.int .u8 (rd l0 9))) ∧ (w'.heap[gb177]? = some (.cells #[.int .i64 0, .int .i64 0, .int .i64 0, .int .i64 0, .slice none 0 0] 24 (0, 0))) ∧ (w'.heap[s_]? = some (.cells #[.int .i64 0, .int .i64 0, .int .i64 0, .int .i64 0, .slice none 0 0] 24 (0, 0))) ∧ (w.heap.size ≤ s_) ∧ (w.heap.size ≤ s_) ∧ (gb177 ≠ s_) ∧ (s_ ≠ gb177) ∧ (Below w.heap.size w w')) ?_ ?_
                      rotate_left
                      ·
                       intro hJ17
                       refine three_ (i := 9) (j := 12) (k := 17) (Ni := some 48) (Nj := some 51) (Nk := some 4) #[true, true, true, true, true, true, true, true, true, true, true, false, false, true, true, false, false, false, false] #[true, true, true, true, true, true, true, true, true, false, true, false, true, true, true, false, false, false, false] #[true, true, true, true, true, true, true, true, true, false, true, false, false, true, true, false, false, true, false] rfl rfl rfl rfl rfl rfl (three_of HT_.out (by kernel_rfl)) (by decide) (by decide) (by decide) (fun K hK => ?_) (fun K hK => ?_) (fun K hK => ?_)
                       ·
                        skip
                        refine goes_ Tryd.func23 (by kernel_rfl) rfl #[.slice (some ad182) l0.length c0, .int .i64 12] (by rfl) rfl rfl (by (try simp only [List.map_toArray, List.map_cons, List.map_nil]); first | done | rfl | (simp only [List.length_drop, List.length_take]; rfl)) ?_
                        with_reducible refine (plenumref1_Four.calls _ _ l0 12 t184 _ ?side1 ?side2 A19.out).mono ?_
                        (case side1 => repeat (first | exact (Kd.C_below HR0.out HB.out) | (with_reducible refine Kd.C_alloc ?_ _) | (with_reducible refine Kd.C_drewN ?_ _) | (with_reducible refine Kd.C_drew ?_)))
                        (case side2 => exact HC0.out)
                        rintro e w' ⟨rfl, ⟨nd, rfl⟩⟩
                        refine ⟨_, rfl, ?_⟩
                        refine hK.out _ _ ⟨((HB.out.cell (zD w _ hw182_0)).trans hw182_0), ((HB.out.cell (zD w _ hw183_0)).trans hw183_0)⟩ (fun hHeld => ?_)
                        clear hK K
                        refine norm_ (a' := ?_) ?_ ?_
                        rotate_left
                        ·
                         show Act.put _ (some 48) _ = _
                         simp only [Act.put, zA, zB, zC, i64_w, i32_w]
                         rfl
                        exact norm_ (by first | (simp only [putAll, Act.put, zA, zB, zC]; done) | (simp only [putAll, Act.put, zA, zB, zC]; rfl)) (hJ9 () _ ⟨hHeld, (by (with_reducible repeat (first | refine zI ?_ _ | refine zJ ?_ | refine zK ?_ _)); exact BK177.out), (by repeat (first | (with_reducible first | exact HB.out | apply zG | apply zE | apply zF | refine zH ?_ GE177.out) | exact HB.out))⟩)
                       ·
                        skip
                        refine Kd.R_lit_step (Kd.int .u8) _ 5 ?hg (N := 51) ?hd (xs := ([] : List Int)) (inner := []) (ok := fun _ => True) (okp := fun _ => True) ?hr ?hp (fun _ hk => hk) trivial (Below.refl _ _) (Nat.le_refl _) (by simp) ?_; (case hd => rfl); (case hg => rfl); (case hr => first | (go_simp; done) | (go_simp; rfl)); (case hp => exact (Reps.none _ _))
                        intro v187 w27 ho28 hb hg_ hnew_
                        clear hg_ hnew_
                        (first | rw [← Ny186.out] at ho28 | (simp only [Int.reduceToNat] at ho28; rw [← Ny186.out] at ho28))
                        have n0_ := Aside0.mk (Kd.R_lower ho28 (below_size (by repeat (first | (with_reducible first | exact HB.out | apply zG | apply zE | apply zF | refine zH ?_ GE177.out) | exact HB.out))))
                        have n1_ := Aside0.mk (blk_below (g := gb177) (o := .cells #[.int .i64 0, .int .i64 0, .int .i64 0, .int .i64 0, .slice none 0 0] 24 (0, 0)) (by (with_reducible repeat (first | refine zI ?_ _ | refine zJ ?_ | refine zK ?_ _)); exact BK177.out) hb)
                        have n2_ := Aside0.mk (below_step (by repeat (first | (with_reducible first | exact HB.out | apply zG | apply zE | apply zF | refine zH ?_ GE177.out) | exact HB.out)) hb)
                        clear BK177
                        clear HB
                        have HO188 := n0_
                        have BK177 := n1_
                        have HB := n2_
                        clear n0_ n1_ n2_
                        clear hb ho28
                        refine hK.out _ _ ⟨((HB.out.cell (zD w _ hw182_0)).trans hw182_0), ((HB.out.cell (zD w _ hw183_0)).trans hw183_0)⟩ (fun hHeld => ?_)
                        clear hK K
                        refine norm_ (a' := ?_) ?_ ?_
                        rotate_left
                        ·
                         show Act.put _ (some 51) _ = _
                         simp only [Act.put, zA, zB, zC, i64_w, i32_w]
                         rfl
                        exact norm_ (by first | (simp only [putAll, Act.put, zA, zB, zC]; done) | (simp only [putAll, Act.put, zA, zB, zC]; rfl)) (hJ12 (v187) _ ⟨hHeld, (by (with_reducible repeat (first | apply Kd.R_alloc | apply Kd.R_drewN | apply Kd.R_drew)); exact HO188.out), (by (with_reducible repeat (first | refine zI ?_ _ | refine zJ ?_ | refine zK ?_ _)); exact BK177.out), (by repeat (first | (with_reducible first | exact HB.out | apply zG | apply zE | apply zF | refine zH ?_ GE177.out) | exact HB.out))⟩)
                       ·
                        skip
                        refine box_step ?hg (N := 4) ?hd (cs := #[.int .i64 0, .int .i64 0, .int .i64 0, .int .i64 0, .slice none 0 0]) (t := 24) ?hr ?_; (case hd => rfl); (case hg => rfl); (case hr => first | (go_simp; done) | (go_simp; rfl))
                        intro gb193 hg w27 hbox hb
                        have n0_ := Aside0.mk (blk_below (g := gb177) (o := .cells #[.int .i64 0, .int .i64 0, .int .i64 0, .int .i64 0, .slice none 0 0] 24 (0, 0)) (by (with_reducible repeat (first | refine zI ?_ _ | refine zJ ?_ | refine zK ?_ _)); exact BK177.out) hb)
                        have n1_ := Aside0.mk (below_step (by repeat (first | (with_reducible first | exact HB.out | apply zG | apply zE | apply zF | refine zH ?_ GE177.out) | exact HB.out)) hb)
                        have n2_ := Aside0.mk (hbox)
                        have n3_ := Aside0.mk ((by rw [hg]; exact (below_size (by repeat (first | (with_reducible first | exact HB.out | apply zG | apply zE | apply zF | refine zH ?_ GE177.out) | exact HB.out))) : w.heap.size ≤ gb193))
                        have n4_ := Aside0.mk ((by rw [hg]; exact (below_size (by repeat (first | (with_reducible first | exact HB.out | apply zG | apply zE | apply zF | refine zH ?_ GE177.out) | exact HB.out))) : w.heap.size ≤ gb193))
                        have n5_ := Aside0.mk ((by rw [hg]; exact zM (blk_lt (g := gb177) (o := .cells #[.int .i64 0, .int .i64 0, .int .i64 0, .int .i64 0, .slice none 0 0] 24 (0, 0)) (by (with_reducible repeat (first | refine zI ?_ _ | refine zJ ?_ | refine zK ?_ _)); exact BK177.out)) : gb177 ≠ gb193))
                        have n6_ := Aside0.mk ((by rw [hg]; exact Nat.ne_of_gt (blk_lt (g := gb177) (o := .cells #[.int .i64 0, .int .i64 0, .int .i64 0, .int .i64 0, .slice none 0 0] 24 (0, 0)) (by (with_reducible repeat (first | refine zI ?_ _ | refine zJ ?_ | refine zK ?_ _)); exact BK177.out)) : gb193 ≠ gb177))
                        clear BK177
                        clear HB
                        have BK177 := n0_
                        have HB := n1_
                        have BK193 := n2_
                        have GW193 := n3_
                        have GE193 := n4_
                        have NB177_193 := n5_
                        have NB193_177 := n6_
                        clear n0_ n1_ n2_ n3_ n4_ n5_ n6_
                        clear hb hbox hg
                        refine hK.out _ _ ⟨((HB.out.cell (zD w _ hw182_0)).trans hw182_0), ((HB.out.cell (zD w _ hw183_0)).trans hw183_0)⟩ (fun hHeld => ?_)
                        clear hK K
                        refine norm_ (a' := ?_) ?_ ?_
                        rotate_left
                        ·
                         show Act.put _ (some 4) _ = _
                         simp only [Act.put, zA, zB, zC, i64_w, i32_w]
                         rfl
                        exact norm_ (by first | (simp only [putAll, Act.put, zA, zB, zC]; done) | (simp only [putAll, Act.put, zA, zB, zC]; rfl)) (hJ17 (gb193) _ ⟨hHeld, (by (with_reducible repeat (first | refine zI ?_ _ | refine zJ ?_ | refine zK ?_ _)); exact BK177.out), (by (with_reducible repeat (first | refine zI ?_ _ | refine zJ ?_ | refine zK ?_ _)); exact BK193.out), GW193.out, GE193.out, NB177_193.out, NB193_177.out, (by repeat (first | (with_reducible first | exact HB.out | apply zG | apply zE | apply zF | refine zH ?_ GE177.out | refine zH ?_ GE193.out) | exact HB.out))⟩)
                      ·
                       skip
                       rintro gb193 w28 ⟨hS_, h0_, h1_, h2_, h3_, h4_, h5_, h6_⟩
                       have n0_ : Aside0 (w28.heap[gb177]? = some (.cells #[.int .i64 0, .int .i64 0, .int .i64 0, .int .i64 0, .slice none 0 0] 24 (0, 0))) := ⟨h0_⟩
                       have n1_ : Aside0 (w28.heap[gb193]? = some (.cells #[.int .i64 0, .int .i64 0, .int .i64 0, .int .i64 0, .slice none 0 0] 24 (0, 0))) := ⟨h1_⟩
                       have n2_ : Aside0 (w.heap.size ≤ gb193) := ⟨h2_⟩
                       have n3_ : Aside0 (w.heap.size ≤ gb193) := ⟨h3_⟩
                       have n4_ : Aside0 (gb177 ≠ gb193) := ⟨h4_⟩
                       have n5_ : Aside0 (gb193 ≠ gb177) := ⟨h5_⟩
                       have n6_ : Aside0 (Below w.heap.size w w28) := ⟨h6_⟩
                       clear BK177
                       clear HB
                       clear h0_ h1_ h2_ h3_ h4_ h5_ h6_
                       have BK177 := n0_
                       have BK193 := n1_
                       have GW193 := n2_
                       have GE193 := n3_
                       have NB177_193 := n4_
                       have NB193_177 := n5_
                       have HB := n6_
                       clear n0_ n1_ n2_ n3_ n4_ n5_ n6_
                       have hHeld : w28.cell? ⟨ad182.block, ad182.off + 8, none⟩ = some (.int .u8 (rd l0 8)) ∧ w28.cell? ⟨ad182.block, ad182.off + 9, none⟩ = some (.int .u8 (rd l0 9)) := hS_
                       refine norm_ (a' := ?_) ?_ ?_
                       rotate_left
                       ·
                        simp only [putAll, Act.put, zA, zB, zC]
                        rfl
                       refine two_ (i := 9) (j := 12) (Ni := some 48) (Nj := some 51) #[true, true, true, true, true, true, true, true, true, true, true, false, false, true, true, false, false, true, false] #[true, true, true, true, true, true, true, true, true, false, true, false, true, true, true, false, false, true, false] rfl rfl rfl rfl (two_of HT_.out (by kernel_rfl)) (by decide) (by decide) (fun K hK => ?_) (fun K hK => ?_)
                       ·
                        skip
                        refine goes_ Tryd.func23 (by kernel_rfl) rfl #[.slice (some ad182) l0.length c0, .int .i64 12] (by rfl) rfl rfl (by (try simp only [List.map_toArray, List.map_cons, List.map_nil]); first | done | rfl | (simp only [List.length_drop, List.length_take]; rfl)) ?_
                        with_reducible refine (plenumref1_Four.calls _ _ l0 12 t184 _ ?side1 ?side2 A19.out).mono ?_
                        (case side1 => repeat (first | exact (Kd.C_below HR0.out HB.out) | (with_reducible refine Kd.C_alloc ?_ _) | (with_reducible refine Kd.C_drewN ?_ _) | (with_reducible refine Kd.C_drew ?_)))
                        (case side2 => exact HC0.out)
                        rintro e w' ⟨rfl, ⟨nd, rfl⟩⟩
                        refine ⟨_, rfl, ?_⟩
                        refine hK.out _ _ ⟨((HB.out.cell (zD w _ hw182_0)).trans hw182_0), ((HB.out.cell (zD w _ hw183_0)).trans hw183_0)⟩ (fun hHeld => ?_)
                        clear hK K
                        refine norm_ (a' := ?_) ?_ ?_
                        rotate_left
                        ·
                         show Act.put _ (some 48) _ = _
                         simp only [Act.put, zA, zB, zC, i64_w, i32_w]
                         rfl
                        exact norm_ (by first | (simp only [putAll, Act.put, zA, zB, zC]; done) | (simp only [putAll, Act.put, zA, zB, zC]; rfl)) (hJ9_17 (gb193) _ ⟨hHeld, (by (with_reducible repeat (first | refine zI ?_ _ | refine zJ ?_ | refine zK ?_ _)); exact BK177.out), (by (with_reducible repeat (first | refine zI ?_ _ | refine zJ ?_ | refine zK ?_ _)); exact BK193.out), GW193.out, GE193.out, NB177_193.out, NB193_177.out, (by repeat (first | (with_reducible first | exact HB.out | apply zG | apply zE | apply zF | refine zH ?_ GE177.out | refine zH ?_ GE193.out) | exact HB.out))⟩)
                       ·
                        skip
                        refine Kd.R_lit_step (Kd.int .u8) _ 5 ?hg (N := 51) ?hd (xs := ([] : List Int)) (inner := []) (ok := fun _ => True) (okp := fun _ => True) ?hr ?hp (fun _ hk => hk) trivial (Below.refl _ _) (Nat.le_refl _) (by simp) ?_; (case hd => rfl); (case hg => rfl); (case hr => first | (go_simp; done) | (go_simp; rfl)); (case hp => exact (Reps.none _ _))
                        intro v187 w29 ho30 hb hg_ hnew_
                        clear hg_ hnew_
                        (first | rw [← Ny186.out] at ho30 | (simp only [Int.reduceToNat] at ho30; rw [← Ny186.out] at ho30))
                        have n0_ := Aside0.mk (Kd.R_lower ho30 (below_size (by repeat (first | (with_reducible first | exact HB.out | apply zG | apply zE | apply zF | refine zH ?_ GE177.out | refine zH ?_ GE193.out) | exact HB.out))))
                        have n1_ := Aside0.mk (blk_below (g := gb177) (o := .cells #[.int .i64 0, .int .i64 0, .int .i64 0, .int .i64 0, .slice none 0 0] 24 (0, 0)) (by (with_reducible repeat (first | refine zI ?_ _ | refine zJ ?_ | refine zK ?_ _)); exact BK177.out) hb)
                        have n2_ := Aside0.mk (blk_below (g := gb193) (o := .cells #[.int .i64 0, .int .i64 0, .int .i64 0, .int .i64 0, .slice none 0 0] 24 (0, 0)) (by (with_reducible repeat (first | refine zI ?_ _ | refine zJ ?_ | refine zK ?_ _)); exact BK193.out) hb)
                        have n3_ := Aside0.mk (below_step (by repeat (first | (with_reducible first | exact HB.out | apply zG | apply zE | apply zF | refine zH ?_ GE177.out | refine zH ?_ GE193.out) | exact HB.out)) hb)
                        clear BK177
                        clear BK193
                        clear HB
                        have HO188 := n0_
                        have BK177 := n1_
                        have BK193 := n2_
                        have HB := n3_
                        clear n0_ n1_ n2_ n3_
                        clear hb ho30
                        refine hK.out _ _ ⟨((HB.out.cell (zD w _ hw182_0)).trans hw182_0), ((HB.out.cell (zD w _ hw183_0)).trans hw183_0)⟩ (fun hHeld => ?_)
                        clear hK K
                        refine norm_ (a' := ?_) ?_ ?_
                        rotate_left
                        ·
                         show Act.put _ (some 51) _ = _
                         simp only [Act.put, zA, zB, zC, i64_w, i32_w]
                         rfl
                        exact norm_ (by first | (simp only [putAll, Act.put, zA, zB, zC]; done) | (simp only [putAll, Act.put, zA, zB, zC]; rfl)) (hJ12_17 (v187, gb193) _ ⟨hHeld, (by (with_reducible repeat (first | apply Kd.R_alloc | apply Kd.R_drewN | apply Kd.R_drew)); exact HO188.out), (by (with_reducible repeat (first | refine zI ?_ _ | refine zJ ?_ | refine zK ?_ _)); exact BK177.out), (by (with_reducible repeat (first | refine zI ?_ _ | refine zJ ?_ | refine zK ?_ _)); exact BK193.out), GW193.out, GE193.out, NB177_193.out, NB193_177.out, (by repeat (first | (with_reducible first | exact HB.out | apply zG | apply zE | apply zF | refine zH ?_ GE177.out | refine zH ?_ GE193.out) | exact HB.out))⟩)
                     ·
                      skip
                      rintro v187 w29 ⟨hS_, h0_, h1_, h2_⟩
                      have n0_ : Aside0 (Kd.R (Kd.int .u8) 5 w29 w.heap.size (fun _ => True) v187 y186) := ⟨h0_⟩
                      have n1_ : Aside0 (w29.heap[gb177]? = some (.cells #[.int .i64 0, .int .i64 0, .int .i64 0, .int .i64 0, .slice none 0 0] 24 (0, 0))) := ⟨h1_⟩
                      have n2_ : Aside0 (Below w.heap.size w w29) := ⟨h2_⟩
                      clear BK177
                      clear HB
                      clear h0_ h1_ h2_
                      have HO188 := n0_
                      have BK177 := n1_
                      have HB := n2_
                      clear n0_ n1_ n2_
                      have hHeld : w29.cell? ⟨ad182.block, ad182.off + 8, none⟩ = some (.int .u8 (rd l0 8)) ∧ w29.cell? ⟨ad182.block, ad182.off + 9, none⟩ = some (.int .u8 (rd l0 9)) := hS_
                      refine norm_ (a' := ?_) ?_ ?_
                      rotate_left
                      ·
                       simp only [putAll, Act.put, zA, zB, zC]
                       rfl
                      refine two_ (i := 9) (j := 17) (Ni := some 48) (Nj := some 4) #[true, true, true, true, true, true, true, true, true, true, true, false, true, true, true, false, false, false, false] #[true, true, true, true, true, true, true, true, true, false, true, false, true, true, true, false, false, true, false] rfl rfl rfl rfl (two_of HT_.out (by kernel_rfl)) (by decide) (by decide) (fun K hK => ?_) (fun K hK => ?_)
                      ·
                       skip
                       refine goes_ Tryd.func23 (by kernel_rfl) rfl #[.slice (some ad182) l0.length c0, .int .i64 12] (by rfl) rfl rfl (by (try simp only [List.map_toArray, List.map_cons, List.map_nil]); first | done | rfl | (simp only [List.length_drop, List.length_take]; rfl)) ?_
                       with_reducible refine (plenumref1_Four.calls _ _ l0 12 t184 _ ?side1 ?side2 A19.out).mono ?_
                       (case side1 => repeat (first | exact (Kd.C_below HR0.out HB.out) | (with_reducible refine Kd.C_alloc ?_ _) | (with_reducible refine Kd.C_drewN ?_ _) | (with_reducible refine Kd.C_drew ?_)))
                       (case side2 => exact HC0.out)
                       rintro e w' ⟨rfl, ⟨nd, rfl⟩⟩
                       refine ⟨_, rfl, ?_⟩
                       refine hK.out _ _ ⟨((HB.out.cell (zD w _ hw182_0)).trans hw182_0), ((HB.out.cell (zD w _ hw183_0)).trans hw183_0)⟩ (fun hHeld => ?_)
                       clear hK K
                       refine norm_ (a' := ?_) ?_ ?_
                       rotate_left
                       ·
                        show Act.put _ (some 48) _ = _
                        simp only [Act.put, zA, zB, zC, i64_w, i32_w]
                        rfl
                       exact norm_ (by first | (simp only [putAll, Act.put, zA, zB, zC]; done) | (simp only [putAll, Act.put, zA, zB, zC]; rfl)) (hJ9_12 (v187) _ ⟨hHeld, (by (with_reducible repeat (first | apply Kd.R_alloc | apply Kd.R_drewN | apply Kd.R_drew)); exact HO188.out), (by (with_reducible repeat (first | refine zI ?_ _ | refine zJ ?_ | refine zK ?_ _)); exact BK177.out), (by repeat (first | (with_reducible first | exact HB.out | apply zG | apply zE | apply zF | refine zH ?_ GE177.out) | exact HB.out))⟩)
                      ·
                       skip
                       refine box_step ?hg (N := 4) ?hd (cs := #[.int .i64 0, .int .i64 0, .int .i64 0, .int .i64 0, .slice none 0 0]) (t := 24) ?hr ?_; (case hd => rfl); (case hg => rfl); (case hr => first | (go_simp; done) | (go_simp; rfl))
                       intro gb193 hg w30 hbox hb
                       have n0_ := Aside0.mk (Kd.R_below (by (with_reducible repeat (first | apply Kd.R_alloc | apply Kd.R_drewN | apply Kd.R_drew)); exact HO188.out) hb)
                       have n1_ := Aside0.mk (blk_below (g := gb177) (o := .cells #[.int .i64 0, .int .i64 0, .int .i64 0, .int .i64 0, .slice none 0 0] 24 (0, 0)) (by (with_reducible repeat (first | refine zI ?_ _ | refine zJ ?_ | refine zK ?_ _)); exact BK177.out) hb)
                       have n2_ := Aside0.mk (below_step (by repeat (first | (with_reducible first | exact HB.out | apply zG | apply zE | apply zF | refine zH ?_ GE177.out) | exact HB.out)) hb)
                       have n3_ := Aside0.mk (hbox)
                       have n4_ := Aside0.mk ((by rw [hg]; exact (below_size (by repeat (first | (with_reducible first | exact HB.out | apply zG | apply zE | apply zF | refine zH ?_ GE177.out) | exact HB.out))) : w.heap.size ≤ gb193))
                       have n5_ := Aside0.mk ((by rw [hg]; exact (below_size (by repeat (first | (with_reducible first | exact HB.out | apply zG | apply zE | apply zF | refine zH ?_ GE177.out) | exact HB.out))) : w.heap.size ≤ gb193))
                       have n6_ := Aside0.mk ((by rw [hg]; exact zM (blk_lt (g := gb177) (o := .cells #[.int .i64 0, .int .i64 0, .int .i64 0, .int .i64 0, .slice none 0 0] 24 (0, 0)) (by (with_reducible repeat (first | refine zI ?_ _ | refine zJ ?_ | refine zK ?_ _)); exact BK177.out)) : gb177 ≠ gb193))
                       have n7_ := Aside0.mk ((by rw [hg]; exact Nat.ne_of_gt (blk_lt (g := gb177) (o := .cells #[.int .i64 0, .int .i64 0, .int .i64 0, .int .i64 0, .slice none 0 0] 24 (0, 0)) (by (with_reducible repeat (first | refine zI ?_ _ | refine zJ ?_ | refine zK ?_ _)); exact BK177.out)) : gb193 ≠ gb177))
                       clear HO188
                       clear BK177
                       clear HB
                       have HO188 := n0_
                       have BK177 := n1_
                       have HB := n2_
                       have BK193 := n3_
                       have GW193 := n4_
                       have GE193 := n5_
                       have NB177_193 := n6_
                       have NB193_177 := n7_
                       clear n0_ n1_ n2_ n3_ n4_ n5_ n6_ n7_
                       clear hb hbox hg
                       refine hK.out _ _ ⟨((HB.out.cell (zD w _ hw182_0)).trans hw182_0), ((HB.out.cell (zD w _ hw183_0)).trans hw183_0)⟩ (fun hHeld => ?_)
                       clear hK K
                       refine norm_ (a' := ?_) ?_ ?_
                       rotate_left
                       ·
                        show Act.put _ (some 4) _ = _
                        simp only [Act.put, zA, zB, zC, i64_w, i32_w]
                        rfl
                       exact norm_ (by first | (simp only [putAll, Act.put, zA, zB, zC]; done) | (simp only [putAll, Act.put, zA, zB, zC]; rfl)) (hJ12_17 (v187, gb193) _ ⟨hHeld, (by (with_reducible repeat (first | apply Kd.R_alloc | apply Kd.R_drewN | apply Kd.R_drew)); exact HO188.out), (by (with_reducible repeat (first | refine zI ?_ _ | refine zJ ?_ | refine zK ?_ _)); exact BK177.out), (by (with_reducible repeat (first | refine zI ?_ _ | refine zJ ?_ | refine zK ?_ _)); exact BK193.out), GW193.out, GE193.out, NB177_193.out, NB193_177.out, (by repeat (first | (with_reducible first | exact HB.out | apply zG | apply zE | apply zF | refine zH ?_ GE177.out | refine zH ?_ GE193.out) | exact HB.out))⟩)
                    ·
                     skip
                     rintro _ w27 ⟨hS_, h0_, h1_⟩
                     have n0_ : Aside0 (w27.heap[gb177]? = some (.cells #[.int .i64 0, .int .i64 0, .int .i64 0, .int .i64 0, .slice none 0 0] 24 (0, 0))) := ⟨h0_⟩
                     have n1_ : Aside0 (Below w.heap.size w w27) := ⟨h1_⟩
                     clear BK177
                     clear HB
                     clear h0_ h1_
                     have BK177 := n0_
                     have HB := n1_
                     clear n0_ n1_
                     have hHeld : w27.cell? ⟨ad182.block, ad182.off + 8, none⟩ = some (.int .u8 (rd l0 8)) ∧ w27.cell? ⟨ad182.block, ad182.off + 9, none⟩ = some (.int .u8 (rd l0 9)) := hS_
                     refine norm_ (a' := ?_) ?_ ?_
                     rotate_left
                     ·
                      simp only [putAll, Act.put, zA, zB, zC]
                      rfl
                     refine three_ (i := 11) (j := 12) (k := 17) (Ni := some 50) (Nj := some 51) (Nk := some 4) #[true, true, true, true, true, true, true, true, true, true, true, true, false, true, true, false, false, false, false] #[true, true, true, true, true, true, true, true, true, true, true, false, true, true, true, false, false, false, false] #[true, true, true, true, true, true, true, true, true, true, true, false, false, true, true, false, false, true, false] rfl rfl rfl rfl rfl rfl (three_of HT_.out (by kernel_rfl)) (by decide) (by decide) (by decide) (fun K hK => ?_) (fun K hK => ?_) (fun K hK => ?_)
                     ·
                      skip
                      refine goes_ Tryd.func23 (by kernel_rfl) rfl #[.slice (some ad182) l0.length c0, .int .i64 16] (by rfl) rfl rfl (by (try simp only [List.map_toArray, List.map_cons, List.map_nil]); first | done | rfl | (simp only [List.length_drop, List.length_take]; rfl)) ?_
                      with_reducible refine (plenumref1_Four.calls _ _ l0 16 t185 _ ?side1 ?side2 A20.out).mono ?_
                      (case side1 => repeat (first | exact (Kd.C_below HR0.out HB.out) | (with_reducible refine Kd.C_alloc ?_ _) | (with_reducible refine Kd.C_drewN ?_ _) | (with_reducible refine Kd.C_drew ?_)))
                      (case side2 => exact HC0.out)
                      rintro e w' ⟨rfl, ⟨nd, rfl⟩⟩
                      refine ⟨_, rfl, ?_⟩
                      refine hK.out _ _ ⟨((HB.out.cell (zD w _ hw182_0)).trans hw182_0), ((HB.out.cell (zD w _ hw183_0)).trans hw183_0)⟩ (fun hHeld => ?_)
                      clear hK K
                      refine norm_ (a' := ?_) ?_ ?_
                      rotate_left
                      ·
                       show Act.put _ (some 50) _ = _
                       simp only [Act.put, zA, zB, zC, i64_w, i32_w]
                       rfl
                      exact norm_ (by first | (simp only [putAll, Act.put, zA, zB, zC]; done) | (simp only [putAll, Act.put, zA, zB, zC]; rfl)) (hJ9_11 () _ ⟨hHeld, (by (with_reducible repeat (first | refine zI ?_ _ | refine zJ ?_ | refine zK ?_ _)); exact BK177.out), (by repeat (first | (with_reducible first | exact HB.out | apply zG | apply zE | apply zF | refine zH ?_ GE177.out) | exact HB.out))⟩)
                     ·
                      skip
                      refine Kd.R_lit_step (Kd.int .u8) _ 5 ?hg (N := 51) ?hd (xs := ([] : List Int)) (inner := []) (ok := fun _ => True) (okp := fun _ => True) ?hr ?hp (fun _ hk => hk) trivial (Below.refl _ _) (Nat.le_refl _) (by simp) ?_; (case hd => rfl); (case hg => rfl); (case hr => first | (go_simp; done) | (go_simp; rfl)); (case hp => exact (Reps.none _ _))
                      intro v187 w28 ho29 hb hg_ hnew_
                      clear hg_ hnew_
                      (first | rw [← Ny186.out] at ho29 | (simp only [Int.reduceToNat] at ho29; rw [← Ny186.out] at ho29))
                      have n0_ := Aside0.mk (Kd.R_lower ho29 (below_size (by repeat (first | (with_reducible first | exact HB.out | apply zG | apply zE | apply zF | refine zH ?_ GE177.out) | exact HB.out))))
                      have n1_ := Aside0.mk (blk_below (g := gb177) (o := .cells #[.int .i64 0, .int .i64 0, .int .i64 0, .int .i64 0, .slice none 0 0] 24 (0, 0)) (by (with_reducible repeat (first | refine zI ?_ _ | refine zJ ?_ | refine zK ?_ _)); exact BK177.out) hb)
                      have n2_ := Aside0.mk (below_step (by repeat (first | (with_reducible first | exact HB.out | apply zG | apply zE | apply zF | refine zH ?_ GE177.out) | exact HB.out)) hb)
                      clear BK177
                      clear HB
                      have HO188 := n0_
                      have BK177 := n1_
                      have HB := n2_
                      clear n0_ n1_ n2_
                      clear hb ho29
                      refine hK.out _ _ ⟨((HB.out.cell (zD w _ hw182_0)).trans hw182_0), ((HB.out.cell (zD w _ hw183_0)).trans hw183_0)⟩ (fun hHeld => ?_)
                      clear hK K
                      refine norm_ (a' := ?_) ?_ ?_
                      rotate_left
                      ·
                       show Act.put _ (some 51) _ = _
                       simp only [Act.put, zA, zB, zC, i64_w, i32_w]
                       rfl
                      exact norm_ (by first | (simp only [putAll, Act.put, zA, zB, zC]; done) | (simp only [putAll, Act.put, zA, zB, zC]; rfl)) (hJ9_12 (v187) _ ⟨hHeld, (by (with_reducible repeat (first | apply Kd.R_alloc | apply Kd.R_drewN | apply Kd.R_drew)); exact HO188.out), (by (with_reducible repeat (first | refine zI ?_ _ | refine zJ ?_ | refine zK ?_ _)); exact BK177.out), (by repeat (first | (with_reducible first | exact HB.out | apply zG | apply zE | apply zF | refine zH ?_ GE177.out) | exact HB.out))⟩)
                     ·
                      skip
                      refine box_step ?hg (N := 4) ?hd (cs := #[.int .i64 0, .int .i64 0, .int .i64 0, .int .i64 0, .slice none 0 0]) (t := 24) ?hr ?_; (case hd => rfl); (case hg => rfl); (case hr => first | (go_simp; done) | (go_simp; rfl))
                      intro gb193 hg w28 hbox hb
                      have n0_ := Aside0.mk (blk_below (g := gb177) (o := .cells #[.int .i64 0, .int .i64 0, .int .i64 0, .int .i64 0, .slice none 0 0] 24 (0, 0)) (by (with_reducible repeat (first | refine zI ?_ _ | refine zJ ?_ | refine zK ?_ _)); exact BK177.out) hb)
                      have n1_ := Aside0.mk (below_step (by repeat (first | (with_reducible first | exact HB.out | apply zG | apply zE | apply zF | refine zH ?_ GE177.out) | exact HB.out)) hb)
                      have n2_ := Aside0.mk (hbox)
                      have n3_ := Aside0.mk ((by rw [hg]; exact (below_size (by repeat (first | (with_reducible first | exact HB.out | apply zG | apply zE | apply zF | refine zH ?_ GE177.out) | exact HB.out))) : w.heap.size ≤ gb193))
                      have n4_ := Aside0.mk ((by rw [hg]; exact (below_size (by repeat (first | (with_reducible first | exact HB.out | apply zG | apply zE | apply zF | refine zH ?_ GE177.out) | exact HB.out))) : w.heap.size ≤ gb193))
                      have n5_ := Aside0.mk ((by rw [hg]; exact zM (blk_lt (g := gb177) (o := .cells #[.int .i64 0, .int .i64 0, .int .i64 0, .int .i64 0, .slice none 0 0] 24 (0, 0)) (by (with_reducible repeat (first | refine zI ?_ _ | refine zJ ?_ | refine zK ?_ _)); exact BK177.out)) : gb177 ≠ gb193))
                      have n6_ := Aside0.mk ((by rw [hg]; exact Nat.ne_of_gt (blk_lt (g := gb177) (o := .cells #[.int .i64 0, .int .i64 0, .int .i64 0, .int .i64 0, .slice none 0 0] 24 (0, 0)) (by (with_reducible repeat (first | refine zI ?_ _ | refine zJ ?_ | refine zK ?_ _)); exact BK177.out)) : gb193 ≠ gb177))
                      clear BK177
                      clear HB
                      have BK177 := n0_
                      have HB := n1_
                      have BK193 := n2_
                      have GW193 := n3_
                      have GE193 := n4_
                      have NB177_193 := n5_
                      have NB193_177 := n6_
                      clear n0_ n1_ n2_ n3_ n4_ n5_ n6_
                      clear hb hbox hg
                      refine hK.out _ _ ⟨((HB.out.cell (zD w _ hw182_0)).trans hw182_0), ((HB.out.cell (zD w _ hw183_0)).trans hw183_0)⟩ (fun hHeld => ?_)
                      clear hK K
                      refine norm_ (a' := ?_) ?_ ?_
                      rotate_left
                      ·
                       show Act.put _ (some 4) _ = _
                       simp only [Act.put, zA, zB, zC, i64_w, i32_w]
                       rfl
                      exact norm_ (by first | (simp only [putAll, Act.put, zA, zB, zC]; done) | (simp only [putAll, Act.put, zA, zB, zC]; rfl)) (hJ9_17 (gb193) _ ⟨hHeld, (by (with_reducible repeat (first | refine zI ?_ _ | refine zJ ?_ | refine zK ?_ _)); exact BK177.out), (by (with_reducible repeat (first | refine zI ?_ _ | refine zJ ?_ | refine zK ?_ _)); exact BK193.out), GW193.out, GE193.out, NB177_193.out, NB193_177.out, (by repeat (first | (with_reducible first | exact HB.out | apply zG | apply zE | apply zF | refine zH ?_ GE177.out | refine zH ?_ GE193.out) | exact HB.out))⟩)
                   ·
                    skip
                    rintro ⟨v187, gb193⟩ w30 ⟨hS_, h0_, h1_, h2_, h3_, h4_, h5_, h6_, h7_⟩
                    have n0_ : Aside0 (Kd.R (Kd.int .u8) 5 w30 w.heap.size (fun _ => True) v187 y186) := ⟨h0_⟩
                    have n1_ : Aside0 (w30.heap[gb177]? = some (.cells #[.int .i64 0, .int .i64 0, .int .i64 0, .int .i64 0, .slice none 0 0] 24 (0, 0))) := ⟨h1_⟩
                    have n2_ : Aside0 (w30.heap[gb193]? = some (.cells #[.int .i64 0, .int .i64 0, .int .i64 0, .int .i64 0, .slice none 0 0] 24 (0, 0))) := ⟨h2_⟩
                    have n3_ : Aside0 (w.heap.size ≤ gb193) := ⟨h3_⟩
                    have n4_ : Aside0 (w.heap.size ≤ gb193) := ⟨h4_⟩
                    have n5_ : Aside0 (gb177 ≠ gb193) := ⟨h5_⟩
                    have n6_ : Aside0 (gb193 ≠ gb177) := ⟨h6_⟩
                    have n7_ : Aside0 (Below w.heap.size w w30) := ⟨h7_⟩
                    clear BK177
                    clear HB
                    clear h0_ h1_ h2_ h3_ h4_ h5_ h6_ h7_
                    have HO188 := n0_
                    have BK177 := n1_
                    have BK193 := n2_
                    have GW193 := n3_
                    have GE193 := n4_
                    have NB177_193 := n5_
                    have NB193_177 := n6_
                    have HB := n7_
                    clear n0_ n1_ n2_ n3_ n4_ n5_ n6_ n7_
                    have hHeld : w30.cell? ⟨ad182.block, ad182.off + 8, none⟩ = some (.int .u8 (rd l0 8)) ∧ w30.cell? ⟨ad182.block, ad182.off + 9, none⟩ = some (.int .u8 (rd l0 9)) := hS_
                    refine norm_ (a' := ?_) ?_ ?_
                    rotate_left
                    ·
                     simp only [putAll, Act.put, zA, zB, zC]
                     rfl
                    refine one_ (i := 9) (N := some 48) #[true, true, true, true, true, true, true, true, true, true, true, false, true, true, true, false, false, true, false] rfl rfl (one_of HT_.out (by kernel_rfl)) (by decide) (fun K hK => ?_)
                    refine goes_ Tryd.func23 (by kernel_rfl) rfl #[.slice (some ad182) l0.length c0, .int .i64 12] (by rfl) rfl rfl (by (try simp only [List.map_toArray, List.map_cons, List.map_nil]); first | done | rfl | (simp only [List.length_drop, List.length_take]; rfl)) ?_
                    with_reducible refine (plenumref1_Four.calls _ _ l0 12 t184 _ ?side1 ?side2 A19.out).mono ?_
                    (case side1 => repeat (first | exact (Kd.C_below HR0.out HB.out) | (with_reducible refine Kd.C_alloc ?_ _) | (with_reducible refine Kd.C_drewN ?_ _) | (with_reducible refine Kd.C_drew ?_)))
                    (case side2 => exact HC0.out)
                    rintro e w' ⟨rfl, ⟨nd, rfl⟩⟩
                    refine ⟨_, rfl, ?_⟩
                    refine hK.out _ _ ⟨((HB.out.cell (zD w _ hw182_0)).trans hw182_0), ((HB.out.cell (zD w _ hw183_0)).trans hw183_0)⟩ (fun hHeld => ?_)
                    clear hK K
                    refine norm_ (a' := ?_) ?_ ?_
                    rotate_left
                    ·
                     show Act.put _ (some 48) _ = _
                     simp only [Act.put, zA, zB, zC, i64_w, i32_w]
                     rfl
                    exact norm_ (by first | (simp only [putAll, Act.put, zA, zB, zC]; done) | (simp only [putAll, Act.put, zA, zB, zC]; rfl)) (hJ9_12_17 (v187, gb193) _ ⟨hHeld, (by (with_reducible repeat (first | apply Kd.R_alloc | apply Kd.R_drewN | apply Kd.R_drew)); exact HO188.out), (by (with_reducible repeat (first | refine zI ?_ _ | refine zJ ?_ | refine zK ?_ _)); exact BK177.out), (by (with_reducible repeat (first | refine zI ?_ _ | refine zJ ?_ | refine zK ?_ _)); exact BK193.out), GW193.out, GE193.out, NB177_193.out, NB193_177.out, (by repeat (first | (with_reducible first | exact HB.out | apply zG | apply zE | apply zF | refine zH ?_ GE177.out | refine zH ?_ GE193.out) | exact HB.out))⟩)
                  ·
                   skip
                   rintro gb193 w28 ⟨hS_, h0_, h1_, h2_, h3_, h4_, h5_, h6_⟩
                   have n0_ : Aside0 (w28.heap[gb177]? = some (.cells #[.int .i64 0, .int .i64 0, .int .i64 0, .int .i64 0, .slice none 0 0] 24 (0, 0))) := ⟨h0_⟩
                   have n1_ : Aside0 (w28.heap[gb193]? = some (.cells #[.int .i64 0, .int .i64 0, .int .i64 0, .int .i64 0, .slice none 0 0] 24 (0, 0))) := ⟨h1_⟩
                   have n2_ : Aside0 (w.heap.size ≤ gb193) := ⟨h2_⟩
                   have n3_ : Aside0 (w.heap.size ≤ gb193) := ⟨h3_⟩
                   have n4_ : Aside0 (gb177 ≠ gb193) := ⟨h4_⟩
                   have n5_ : Aside0 (gb193 ≠ gb177) := ⟨h5_⟩
                   have n6_ : Aside0 (Below w.heap.size w w28) := ⟨h6_⟩
                   clear BK177
                   clear HB
                   clear h0_ h1_ h2_ h3_ h4_ h5_ h6_
                   have BK177 := n0_
                   have BK193 := n1_
                   have GW193 := n2_
                   have GE193 := n3_
                   have NB177_193 := n4_
                   have NB193_177 := n5_
                   have HB := n6_
                   clear n0_ n1_ n2_ n3_ n4_ n5_ n6_
                   have hHeld : w28.cell? ⟨ad182.block, ad182.off + 8, none⟩ = some (.int .u8 (rd l0 8)) ∧ w28.cell? ⟨ad182.block, ad182.off + 9, none⟩ = some (.int .u8 (rd l0 9)) := hS_
                   refine norm_ (a' := ?_) ?_ ?_
                   rotate_left
                   ·
                    simp only [putAll, Act.put, zA, zB, zC]
                    rfl
                   refine two_ (i := 11) (j := 12) (Ni := some 50) (Nj := some 51) #[true, true, true, true, true, true, true, true, true, true, true, true, false, true, true, false, false, true, false] #[true, true, true, true, true, true, true, true, true, true, true, false, true, true, true, false, false, true, false] rfl rfl rfl rfl (two_of HT_.out (by kernel_rfl)) (by decide) (by decide) (fun K hK => ?_) (fun K hK => ?_)
                   ·
                    skip
                    refine goes_ Tryd.func23 (by kernel_rfl) rfl #[.slice (some ad182) l0.length c0, .int .i64 16] (by rfl) rfl rfl (by (try simp only [List.map_toArray, List.map_cons, List.map_nil]); first | done | rfl | (simp only [List.length_drop, List.length_take]; rfl)) ?_
                    with_reducible refine (plenumref1_Four.calls _ _ l0 16 t185 _ ?side1 ?side2 A20.out).mono ?_
                    (case side1 => repeat (first | exact (Kd.C_below HR0.out HB.out) | (with_reducible refine Kd.C_alloc ?_ _) | (with_reducible refine Kd.C_drewN ?_ _) | (with_reducible refine Kd.C_drew ?_)))
                    (case side2 => exact HC0.out)
                    rintro e w' ⟨rfl, ⟨nd, rfl⟩⟩
                    refine ⟨_, rfl, ?_⟩
                    refine hK.out _ _ ⟨((HB.out.cell (zD w _ hw182_0)).trans hw182_0), ((HB.out.cell (zD w _ hw183_0)).trans hw183_0)⟩ (fun hHeld => ?_)
                    clear hK K
                    refine norm_ (a' := ?_) ?_ ?_
                    rotate_left
                    ·
                     show Act.put _ (some 50) _ = _
                     simp only [Act.put, zA, zB, zC, i64_w, i32_w]
                     rfl
                    exact norm_ (by first | (simp only [putAll, Act.put, zA, zB, zC]; done) | (simp only [putAll, Act.put, zA, zB, zC]; rfl)) (hJ9_11_17 (gb193) _ ⟨hHeld, (by (with_reducible repeat (first | refine zI ?_ _ | refine zJ ?_ | refine zK ?_ _)); exact BK177.out), (by (with_reducible repeat (first | refine zI ?_ _ | refine zJ ?_ | refine zK ?_ _)); exact BK193.out), GW193.out, GE193.out, NB177_193.out, NB193_177.out, (by repeat (first | (with_reducible first | exact HB.out | apply zG | apply zE | apply zF | refine zH ?_ GE177.out | refine zH ?_ GE193.out) | exact HB.out))⟩)
                   ·
                    skip
                    refine Kd.R_lit_step (Kd.int .u8) _ 5 ?hg (N := 51) ?hd (xs := ([] : List Int)) (inner := []) (ok := fun _ => True) (okp := fun _ => True) ?hr ?hp (fun _ hk => hk) trivial (Below.refl _ _) (Nat.le_refl _) (by simp) ?_; (case hd => rfl); (case hg => rfl); (case hr => first | (go_simp; done) | (go_simp; rfl)); (case hp => exact (Reps.none _ _))
                    intro v187 w29 ho30 hb hg_ hnew_
                    clear hg_ hnew_
                    (first | rw [← Ny186.out] at ho30 | (simp only [Int.reduceToNat] at ho30; rw [← Ny186.out] at ho30))
                    have n0_ := Aside0.mk (Kd.R_lower ho30 (below_size (by repeat (first | (with_reducible first | exact HB.out | apply zG | apply zE | apply zF | refine zH ?_ GE177.out | refine zH ?_ GE193.out) | exact HB.out))))
                    have n1_ := Aside0.mk (blk_below (g := gb177) (o := .cells #[.int .i64 0, .int .i64 0, .int .i64 0, .int .i64 0, .slice none 0 0] 24 (0, 0)) (by (with_reducible repeat (first | refine zI ?_ _ | refine zJ ?_ | refine zK ?_ _)); exact BK177.out) hb)
                    have n2_ := Aside0.mk (blk_below (g := gb193) (o := .cells #[.int .i64 0, .int .i64 0, .int .i64 0, .int .i64 0, .slice none 0 0] 24 (0, 0)) (by (with_reducible repeat (first | refine zI ?_ _ | refine zJ ?_ | refine zK ?_ _)); exact BK193.out) hb)
                    have n3_ := Aside0.mk (below_step (by repeat (first | (with_reducible first | exact HB.out | apply zG | apply zE | apply zF | refine zH ?_ GE177.out | refine zH ?_ GE193.out) | exact HB.out)) hb)
                    clear BK177
                    clear BK193
                    clear HB
                    have HO188 := n0_
                    have BK177 := n1_
                    have BK193 := n2_
                    have HB := n3_
                    clear n0_ n1_ n2_ n3_
                    clear hb ho30
                    refine hK.out _ _ ⟨((HB.out.cell (zD w _ hw182_0)).trans hw182_0), ((HB.out.cell (zD w _ hw183_0)).trans hw183_0)⟩ (fun hHeld => ?_)
                    clear hK K
                    refine norm_ (a' := ?_) ?_ ?_
                    rotate_left
                    ·
                     show Act.put _ (some 51) _ = _
                     simp only [Act.put, zA, zB, zC, i64_w, i32_w]
                     rfl
                    exact norm_ (by first | (simp only [putAll, Act.put, zA, zB, zC]; done) | (simp only [putAll, Act.put, zA, zB, zC]; rfl)) (hJ9_12_17 (v187, gb193) _ ⟨hHeld, (by (with_reducible repeat (first | apply Kd.R_alloc | apply Kd.R_drewN | apply Kd.R_drew)); exact HO188.out), (by (with_reducible repeat (first | refine zI ?_ _ | refine zJ ?_ | refine zK ?_ _)); exact BK177.out), (by (with_reducible repeat (first | refine zI ?_ _ | refine zJ ?_ | refine zK ?_ _)); exact BK193.out), GW193.out, GE193.out, NB177_193.out, NB193_177.out, (by repeat (first | (with_reducible first | exact HB.out | apply zG | apply zE | apply zF | refine zH ?_ GE177.out | refine zH ?_ GE193.out) | exact HB.out))⟩)
                 ·
                  skip
                  rintro v187 w29 ⟨hS_, h0_, h1_, h2_⟩
                  have n0_ : Aside0 (Kd.R (Kd.int .u8) 5 w29 w.heap.size (fun _ => True) v187 y186) := ⟨h0_⟩
                  have n1_ : Aside0 (w29.heap[gb177]? = some (.cells #[.int .i64 0, .int .i64 0, .int .i64 0, .int .i64 0, .slice none 0 0] 24 (0, 0))) := ⟨h1_⟩
                  have n2_ : Aside0 (Below w.heap.size w w29) := ⟨h2_⟩
                  clear BK177
                  clear HB
                  clear h0_ h1_ h2_
                  have HO188 := n0_
                  have BK177 := n1_
                  have HB := n2_
                  clear n0_ n1_ n2_
                  have hHeld : w29.cell? ⟨ad182.block, ad182.off + 8, none⟩ = some (.int .u8 (rd l0 8)) ∧ w29.cell? ⟨ad182.block, ad182.off + 9, none⟩ = some (.int .u8 (rd l0 9)) := hS_
                  refine norm_ (a' := ?_) ?_ ?_
                  rotate_left
                  ·
                   simp only [putAll, Act.put, zA, zB, zC]
                   rfl
                  refine two_ (i := 11) (j := 17) (Ni := some 50) (Nj := some 4) #[true, true, true, true, true, true, true, true, true, true, true, true, true, true, true, false, false, false, false] #[true, true, true, true, true, true, true, true, true, true, true, false, true, true, true, false, false, true, false] rfl rfl rfl rfl (two_of HT_.out (by kernel_rfl)) (by decide) (by decide) (fun K hK => ?_) (fun K hK => ?_)
                  ·
                   skip
                   refine goes_ Tryd.func23 (by kernel_rfl) rfl #[.slice (some ad182) l0.length c0, .int .i64 16] (by rfl) rfl rfl (by (try simp only [List.map_toArray, List.map_cons, List.map_nil]); first | done | rfl | (simp only [List.length_drop, List.length_take]; rfl)) ?_
                   with_reducible refine (plenumref1_Four.calls _ _ l0 16 t185 _ ?side1 ?side2 A20.out).mono ?_
                   (case side1 => repeat (first | exact (Kd.C_below HR0.out HB.out) | (with_reducible refine Kd.C_alloc ?_ _) | (with_reducible refine Kd.C_drewN ?_ _) | (with_reducible refine Kd.C_drew ?_)))
                   (case side2 => exact HC0.out)
                   rintro e w' ⟨rfl, ⟨nd, rfl⟩⟩
                   refine ⟨_, rfl, ?_⟩
                   refine hK.out _ _ ⟨((HB.out.cell (zD w _ hw182_0)).trans hw182_0), ((HB.out.cell (zD w _ hw183_0)).trans hw183_0)⟩ (fun hHeld => ?_)
                   clear hK K
                   refine norm_ (a' := ?_) ?_ ?_
                   rotate_left
                   ·
                    show Act.put _ (some 50) _ = _
                    simp only [Act.put, zA, zB, zC, i64_w, i32_w]
                    rfl
                   exact norm_ (by first | (simp only [putAll, Act.put, zA, zB, zC]; done) | (simp only [putAll, Act.put, zA, zB, zC]; rfl)) (hJ9_11_12 (v187) _ ⟨hHeld, (by (with_reducible repeat (first | apply Kd.R_alloc | apply Kd.R_drewN | apply Kd.R_drew)); exact HO188.out), (by (with_reducible repeat (first | refine zI ?_ _ | refine zJ ?_ | refine zK ?_ _)); exact BK177.out), (by repeat (first | (with_reducible first | exact HB.out | apply zG | apply zE | apply zF | refine zH ?_ GE177.out) | exact HB.out))⟩)
                  ·
                   skip
                   refine box_step ?hg (N := 4) ?hd (cs := #[.int .i64 0, .int .i64 0, .int .i64 0, .int .i64 0, .slice none 0 0]) (t := 24) ?hr ?_; (case hd => rfl); (case hg => rfl); (case hr => first | (go_simp; done) | (go_simp; rfl))
                   intro gb193 hg w30 hbox hb
                   have n0_ := Aside0.mk (Kd.R_below (by (with_reducible repeat (first | apply Kd.R_alloc | apply Kd.R_drewN | apply Kd.R_drew)); exact HO188.out) hb)
                   have n1_ := Aside0.mk (blk_below (g := gb177) (o := .cells #[.int .i64 0, .int .i64 0, .int .i64 0, .int .i64 0, .slice none 0 0] 24 (0, 0)) (by (with_reducible repeat (first | refine zI ?_ _ | refine zJ ?_ | refine zK ?_ _)); exact BK177.out) hb)
                   have n2_ := Aside0.mk (below_step (by repeat (first | (with_reducible first | exact HB.out | apply zG | apply zE | apply zF | refine zH ?_ GE177.out) | exact HB.out)) hb)
                   have n3_ := Aside0.mk (hbox)
                   have n4_ := Aside0.mk ((by rw [hg]; exact (below_size (by repeat (first | (with_reducible first | exact HB.out | apply zG | apply zE | apply zF | refine zH ?_ GE177.out) | exact HB.out))) : w.heap.size ≤ gb193))
                   have n5_ := Aside0.mk ((by rw [hg]; exact (below_size (by repeat (first | (with_reducible first | exact HB.out | apply zG | apply zE | apply zF | refine zH ?_ GE177.out) | exact HB.out))) : w.heap.size ≤ gb193))
                   have n6_ := Aside0.mk ((by rw [hg]; exact zM (blk_lt (g := gb177) (o := .cells #[.int .i64 0, .int .i64 0, .int .i64 0, .int .i64 0, .slice none 0 0] 24 (0, 0)) (by (with_reducible repeat (first | refine zI ?_ _ | refine zJ ?_ | refine zK ?_ _)); exact BK177.out)) : gb177 ≠ gb193))
                   have n7_ := Aside0.mk ((by rw [hg]; exact Nat.ne_of_gt (blk_lt (g := gb177) (o := .cells #[.int .i64 0, .int .i64 0, .int .i64 0, .int .i64 0, .slice none 0 0] 24 (0, 0)) (by (with_reducible repeat (first | refine zI ?_ _ | refine zJ ?_ | refine zK ?_ _)); exact BK177.out)) : gb193 ≠ gb177))
                   clear HO188
                   clear BK177
                   clear HB
                   have HO188 := n0_
                   have BK177 := n1_
                   have HB := n2_
                   have BK193 := n3_
                   have GW193 := n4_
                   have GE193 := n5_
                   have NB177_193 := n6_
                   have NB193_177 := n7_
                   clear n0_ n1_ n2_ n3_ n4_ n5_ n6_ n7_
                   clear hb hbox hg
                   refine hK.out _ _ ⟨((HB.out.cell (zD w _ hw182_0)).trans hw182_0), ((HB.out.cell (zD w _ hw183_0)).trans hw183_0)⟩ (fun hHeld => ?_)
                   clear hK K
                   refine norm_ (a' := ?_) ?_ ?_
                   rotate_left
                   ·
                    show Act.put _ (some 4) _ = _
                    simp only [Act.put, zA, zB, zC, i64_w, i32_w]
                    rfl
                   exact norm_ (by first | (simp only [putAll, Act.put, zA, zB, zC]; done) | (simp only [putAll, Act.put, zA, zB, zC]; rfl)) (hJ9_12_17 (v187, gb193) _ ⟨hHeld, (by (with_reducible repeat (first | apply Kd.R_alloc | apply Kd.R_drewN | apply Kd.R_drew)); exact HO188.out), (by (with_reducible repeat (first | refine zI ?_ _ | refine zJ ?_ | refine zK ?_ _)); exact BK177.out), (by (with_reducible repeat (first | refine zI ?_ _ | refine zJ ?_ | refine zK ?_ _)); exact BK193.out), GW193.out, GE193.out, NB177_193.out, NB193_177.out, (by repeat (first | (with_reducible first | exact HB.out | apply zG | apply zE | apply zF | refine zH ?_ GE177.out | refine zH ?_ GE193.out) | exact HB.out))⟩)
                ·
                 skip
                 rintro _ w27 ⟨hS_, h0_, h1_⟩
                 have n0_ : Aside0 (w27.heap[gb177]? = some (.cells #[.int .i64 0, .int .i64 0, .int .i64 0, .int .i64 0, .slice none 0 0] 24 (0, 0))) := ⟨h0_⟩
                 have n1_ : Aside0 (Below w.heap.size w w27) := ⟨h1_⟩
                 clear BK177
                 clear HB
                 clear h0_ h1_
                 have BK177 := n0_
                 have HB := n1_
                 clear n0_ n1_
                 have hHeld : w27.cell? ⟨ad182.block, ad182.off + 8, none⟩ = some (.int .u8 (rd l0 8)) ∧ w27.cell? ⟨ad182.block, ad182.off + 9, none⟩ = some (.int .u8 (rd l0 9)) := hS_
                 refine norm_ (a' := ?_) ?_ ?_
                 rotate_left
                 ·
                  simp only [putAll, Act.put, zA, zB, zC]
                  rfl
                 refine two_ (i := 12) (j := 17) (Ni := some 51) (Nj := some 4) #[true, true, true, true, true, true, true, true, true, true, true, true, true, true, true, false, false, false, false] #[true, true, true, true, true, true, true, true, true, true, true, true, false, true, true, false, false, true, false] rfl rfl rfl rfl (two_of HT_.out (by kernel_rfl)) (by decide) (by decide) (fun K hK => ?_) (fun K hK => ?_)
                 ·
                  skip
                  refine Kd.R_lit_step (Kd.int .u8) _ 5 ?hg (N := 51) ?hd (xs := ([] : List Int)) (inner := []) (ok := fun _ => True) (okp := fun _ => True) ?hr ?hp (fun _ hk => hk) trivial (Below.refl _ _) (Nat.le_refl _) (by simp) ?_; (case hd => rfl); (case hg => rfl); (case hr => first | (go_simp; done) | (go_simp; rfl)); (case hp => exact (Reps.none _ _))
                  intro v187 w28 ho29 hb hg_ hnew_
                  clear hg_ hnew_
                  (first | rw [← Ny186.out] at ho29 | (simp only [Int.reduceToNat] at ho29; rw [← Ny186.out] at ho29))
                  have n0_ := Aside0.mk (Kd.R_lower ho29 (below_size (by repeat (first | (with_reducible first | exact HB.out | apply zG | apply zE | apply zF | refine zH ?_ GE177.out) | exact HB.out))))
                  have n1_ := Aside0.mk (blk_below (g := gb177) (o := .cells #[.int .i64 0, .int .i64 0, .int .i64 0, .int .i64 0, .slice none 0 0] 24 (0, 0)) (by (with_reducible repeat (first | refine zI ?_ _ | refine zJ ?_ | refine zK ?_ _)); exact BK177.out) hb)
                  have n2_ := Aside0.mk (below_step (by repeat (first | (with_reducible first | exact HB.out | apply zG | apply zE | apply zF | refine zH ?_ GE177.out) | exact HB.out)) hb)
                  clear BK177
                  clear HB
                  have HO188 := n0_
                  have BK177 := n1_
                  have HB := n2_
                  clear n0_ n1_ n2_
                  clear hb ho29
                  refine hK.out _ _ ⟨((HB.out.cell (zD w _ hw182_0)).trans hw182_0), ((HB.out.cell (zD w _ hw183_0)).trans hw183_0)⟩ (fun hHeld => ?_)
                  clear hK K
                  refine norm_ (a' := ?_) ?_ ?_
                  rotate_left
                  ·
                   show Act.put _ (some 51) _ = _
                   simp only [Act.put, zA, zB, zC, i64_w, i32_w]
                   rfl
                  exact norm_ (by first | (simp only [putAll, Act.put, zA, zB, zC]; done) | (simp only [putAll, Act.put, zA, zB, zC]; rfl)) (hJ9_11_12 (v187) _ ⟨hHeld, (by (with_reducible repeat (first | apply Kd.R_alloc | apply Kd.R_drewN | apply Kd.R_drew)); exact HO188.out), (by (with_reducible repeat (first | refine zI ?_ _ | refine zJ ?_ | refine zK ?_ _)); exact BK177.out), (by repeat (first | (with_reducible first | exact HB.out | apply zG | apply zE | apply zF | refine zH ?_ GE177.out) | exact HB.out))⟩)
                 ·
                  skip
                  refine box_step ?hg (N := 4) ?hd (cs := #[.int .i64 0, .int .i64 0, .int .i64 0, .int .i64 0, .slice none 0 0]) (t := 24) ?hr ?_; (case hd => rfl); (case hg => rfl); (case hr => first | (go_simp; done) | (go_simp; rfl))
                  intro gb193 hg w28 hbox hb
                  have n0_ := Aside0.mk (blk_below (g := gb177) (o := .cells #[.int .i64 0, .int .i64 0, .int .i64 0, .int .i64 0, .slice none 0 0] 24 (0, 0)) (by (with_reducible repeat (first | refine zI ?_ _ | refine zJ ?_ | refine zK ?_ _)); exact BK177.out) hb)
                  have n1_ := Aside0.mk (below_step (by repeat (first | (with_reducible first | exact HB.out | apply zG | apply zE | apply zF | refine zH ?_ GE177.out) | exact HB.out)) hb)
                  have n2_ := Aside0.mk (hbox)
                  have n3_ := Aside0.mk ((by rw [hg]; exact (below_size (by repeat (first | (with_reducible first | exact HB.out | apply zG | apply zE | apply zF | refine zH ?_ GE177.out) | exact HB.out))) : w.heap.size ≤ gb193))
                  have n4_ := Aside0.mk ((by rw [hg]; exact (below_size (by repeat (first | (with_reducible first | exact HB.out | apply zG | apply zE | apply zF | refine zH ?_ GE177.out) | exact HB.out))) : w.heap.size ≤ gb193))
                  have n5_ := Aside0.mk ((by rw [hg]; exact zM (blk_lt (g := gb177) (o := .cells #[.int .i64 0, .int .i64 0, .int .i64 0, .int .i64 0, .slice none 0 0] 24 (0, 0)) (by (with_reducible repeat (first | refine zI ?_ _ | refine zJ ?_ | refine zK ?_ _)); exact BK177.out)) : gb177 ≠ gb193))
                  have n6_ := Aside0.mk ((by rw [hg]; exact Nat.ne_of_gt (blk_lt (g := gb177) (o := .cells #[.int .i64 0, .int .i64 0, .int .i64 0, .int .i64 0, .slice none 0 0] 24 (0, 0)) (by (with_reducible repeat (first | refine zI ?_ _ | refine zJ ?_ | refine zK ?_ _)); exact BK177.out)) : gb193 ≠ gb177))
                  clear BK177
                  clear HB
                  have BK177 := n0_
                  have HB := n1_
                  have BK193 := n2_
                  have GW193 := n3_
                  have GE193 := n4_
                  have NB177_193 := n5_
                  have NB193_177 := n6_
                  clear n0_ n1_ n2_ n3_ n4_ n5_ n6_
                  clear hb hbox hg
                  refine hK.out _ _ ⟨((HB.out.cell (zD w _ hw182_0)).trans hw182_0), ((HB.out.cell (zD w _ hw183_0)).trans hw183_0)⟩ (fun hHeld => ?_)
                  clear hK K
                  refine norm_ (a' := ?_) ?_ ?_
                  rotate_left
                  ·
                   show Act.put _ (some 4) _ = _
                   simp only [Act.put, zA, zB, zC, i64_w, i32_w]
                   rfl
                  exact norm_ (by first | (simp only [putAll, Act.put, zA, zB, zC]; done) | (simp only [putAll, Act.put, zA, zB, zC]; rfl)) (hJ9_11_17 (gb193) _ ⟨hHeld, (by (with_reducible repeat (first | refine zI ?_ _ | refine zJ ?_ | refine zK ?_ _)); exact BK177.out), (by (with_reducible repeat (first | refine zI ?_ _ | refine zJ ?_ | refine zK ?_ _)); exact BK193.out), GW193.out, GE193.out, NB177_193.out, NB193_177.out, (by repeat (first | (with_reducible first | exact HB.out | apply zG | apply zE | apply zF | refine zH ?_ GE177.out | refine zH ?_ GE193.out) | exact HB.out))⟩)
               ·
                skip
                rintro ⟨v187, gb193⟩ w30 ⟨hS_, h0_, h1_, h2_, h3_, h4_, h5_, h6_, h7_⟩
                have n0_ : Aside0 (Kd.R (Kd.int .u8) 5 w30 w.heap.size (fun _ => True) v187 y186) := ⟨h0_⟩
                have n1_ : Aside0 (w30.heap[gb177]? = some (.cells #[.int .i64 0, .int .i64 0, .int .i64 0, .int .i64 0, .slice none 0 0] 24 (0, 0))) := ⟨h1_⟩
                have n2_ : Aside0 (w30.heap[gb193]? = some (.cells #[.int .i64 0, .int .i64 0, .int .i64 0, .int .i64 0, .slice none 0 0] 24 (0, 0))) := ⟨h2_⟩
                have n3_ : Aside0 (w.heap.size ≤ gb193) := ⟨h3_⟩
                have n4_ : Aside0 (w.heap.size ≤ gb193) := ⟨h4_⟩
                have n5_ : Aside0 (gb177 ≠ gb193) := ⟨h5_⟩
                have n6_ : Aside0 (gb193 ≠ gb177) := ⟨h6_⟩
                have n7_ : Aside0 (Below w.heap.size w w30) := ⟨h7_⟩
                clear BK177
                clear HB
                clear h0_ h1_ h2_ h3_ h4_ h5_ h6_ h7_
                have HO188 := n0_
                have BK177 := n1_
                have BK193 := n2_
                have GW193 := n3_
                have GE193 := n4_
                have NB177_193 := n5_
                have NB193_177 := n6_
                have HB := n7_
                clear n0_ n1_ n2_ n3_ n4_ n5_ n6_ n7_
                have hHeld : w30.cell? ⟨ad182.block, ad182.off + 8, none⟩ = some (.int .u8 (rd l0 8)) ∧ w30.cell? ⟨ad182.block, ad182.off + 9, none⟩ = some (.int .u8 (rd l0 9)) := hS_
                refine norm_ (a' := ?_) ?_ ?_
                rotate_left
                ·
                 simp only [putAll, Act.put, zA, zB, zC]
                 rfl
                refine one_ (i := 11) (N := some 50) #[true, true, true, true, true, true, true, true, true, true, true, true, true, true, true, false, false, true, false] rfl rfl (one_of HT_.out (by kernel_rfl)) (by decide) (fun K hK => ?_)
                refine goes_ Tryd.func23 (by kernel_rfl) rfl #[.slice (some ad182) l0.length c0, .int .i64 16] (by rfl) rfl rfl (by (try simp only [List.map_toArray, List.map_cons, List.map_nil]); first | done | rfl | (simp only [List.length_drop, List.length_take]; rfl)) ?_
                with_reducible refine (plenumref1_Four.calls _ _ l0 16 t185 _ ?side1 ?side2 A20.out).mono ?_
                (case side1 => repeat (first | exact (Kd.C_below HR0.out HB.out) | (with_reducible refine Kd.C_alloc ?_ _) | (with_reducible refine Kd.C_drewN ?_ _) | (with_reducible refine Kd.C_drew ?_)))
                (case side2 => exact HC0.out)
                rintro e w' ⟨rfl, ⟨nd, rfl⟩⟩
                refine ⟨_, rfl, ?_⟩
                refine hK.out _ _ ⟨((HB.out.cell (zD w _ hw182_0)).trans hw182_0), ((HB.out.cell (zD w _ hw183_0)).trans hw183_0)⟩ (fun hHeld => ?_)
                clear hK K
                refine norm_ (a' := ?_) ?_ ?_
                rotate_left
                ·
                 show Act.put _ (some 50) _ = _
                 simp only [Act.put, zA, zB, zC, i64_w, i32_w]
                 rfl
                exact norm_ (by first | (simp only [putAll, Act.put, zA, zB, zC]; done) | (simp only [putAll, Act.put, zA, zB, zC]; rfl)) (hJ9_11_12_17 (v187, gb193) _ ⟨hHeld, (by (with_reducible repeat (first | apply Kd.R_alloc | apply Kd.R_drewN | apply Kd.R_drew)); exact HO188.out), (by (with_reducible repeat (first | refine zI ?_ _ | refine zJ ?_ | refine zK ?_ _)); exact BK177.out), (by (with_reducible repeat (first | refine zI ?_ _ | refine zJ ?_ | refine zK ?_ _)); exact BK193.out), GW193.out, GE193.out, NB177_193.out, NB193_177.out, (by repeat (first | (with_reducible first | exact HB.out | apply zG | apply zE | apply zF | refine zH ?_ GE177.out | refine zH ?_ GE193.out) | exact HB.out))⟩)
              ·
               skip
               rintro gb193 w28 ⟨hS_, h0_, h1_, h2_, h3_, h4_, h5_, h6_⟩
               have n0_ : Aside0 (w28.heap[gb177]? = some (.cells #[.int .i64 0, .int .i64 0, .int .i64 0, .int .i64 0, .slice none 0 0] 24 (0, 0))) := ⟨h0_⟩
               have n1_ : Aside0 (w28.heap[gb193]? = some (.cells #[.int .i64 0, .int .i64 0, .int .i64 0, .int .i64 0, .slice none 0 0] 24 (0, 0))) := ⟨h1_⟩
               have n2_ : Aside0 (w.heap.size ≤ gb193) := ⟨h2_⟩
               have n3_ : Aside0 (w.heap.size ≤ gb193) := ⟨h3_⟩
               have n4_ : Aside0 (gb177 ≠ gb193) := ⟨h4_⟩
               have n5_ : Aside0 (gb193 ≠ gb177) := ⟨h5_⟩
               have n6_ : Aside0 (Below w.heap.size w w28) := ⟨h6_⟩
               clear BK177
               clear HB
               clear h0_ h1_ h2_ h3_ h4_ h5_ h6_
               have BK177 := n0_
               have BK193 := n1_
               have GW193 := n2_
               have GE193 := n3_
               have NB177_193 := n4_
               have NB193_177 := n5_
               have HB := n6_
               clear n0_ n1_ n2_ n3_ n4_ n5_ n6_
               have hHeld : w28.cell? ⟨ad182.block, ad182.off + 8, none⟩ = some (.int .u8 (rd l0 8)) ∧ w28.cell? ⟨ad182.block, ad182.off + 9, none⟩ = some (.int .u8 (rd l0 9)) := hS_
               refine norm_ (a' := ?_) ?_ ?_
               rotate_left
               ·
                simp only [putAll, Act.put, zA, zB, zC]
                rfl
               refine one_ (i := 12) (N := some 51) #[true, true, true, true, true, true, true, true, true, true, true, true, true, true, true, false, false, true, false] rfl rfl (one_of HT_.out (by kernel_rfl)) (by decide) (fun K hK => ?_)
               refine Kd.R_lit_step (Kd.int .u8) _ 5 ?hg (N := 51) ?hd (xs := ([] : List Int)) (inner := []) (ok := fun _ => True) (okp := fun _ => True) ?hr ?hp (fun _ hk => hk) trivial (Below.refl _ _) (Nat.le_refl _) (by simp) ?_; (case hd => rfl); (case hg => rfl); (case hr => first | (go_simp; done) | (go_simp; rfl)); (case hp => exact (Reps.none _ _))
               intro v187 w29 ho30 hb hg_ hnew_
               clear hg_ hnew_
               (first | rw [← Ny186.out] at ho30 | (simp only [Int.reduceToNat] at ho30; rw [← Ny186.out] at ho30))
               have n0_ := Aside0.mk (Kd.R_lower ho30 (below_size (by repeat (first | (with_reducible first | exact HB.out | apply zG | apply zE | apply zF | refine zH ?_ GE177.out | refine zH ?_ GE193.out) | exact HB.out))))
               have n1_ := Aside0.mk (blk_below (g := gb177) (o := .cells #[.int .i64 0, .int .i64 0, .int .i64 0, .int .i64 0, .slice none 0 0] 24 (0, 0)) (by (with_reducible repeat (first | refine zI ?_ _ | refine zJ ?_ | refine zK ?_ _)); exact BK177.out) hb)
               have n2_ := Aside0.mk (blk_below (g := gb193) (o := .cells #[.int .i64 0, .int .i64 0, .int .i64 0, .int .i64 0, .slice none 0 0] 24 (0, 0)) (by (with_reducible repeat (first | refine zI ?_ _ | refine zJ ?_ | refine zK ?_ _)); exact BK193.out) hb)
               have n3_ := Aside0.mk (below_step (by repeat (first | (with_reducible first | exact HB.out | apply zG | apply zE | apply zF | refine zH ?_ GE177.out | refine zH ?_ GE193.out) | exact HB.out)) hb)
               clear BK177
               clear BK193
               clear HB
               have HO188 := n0_
               have BK177 := n1_
               have BK193 := n2_
               have HB := n3_
               clear n0_ n1_ n2_ n3_
               clear hb ho30
               refine hK.out _ _ ⟨((HB.out.cell (zD w _ hw182_0)).trans hw182_0), ((HB.out.cell (zD w _ hw183_0)).trans hw183_0)⟩ (fun hHeld => ?_)
               clear hK K
               refine norm_ (a' := ?_) ?_ ?_
               rotate_left
               ·
                show Act.put _ (some 51) _ = _
                simp only [Act.put, zA, zB, zC, i64_w, i32_w]
                rfl
               exact norm_ (by first | (simp only [putAll, Act.put, zA, zB, zC]; done) | (simp only [putAll, Act.put, zA, zB, zC]; rfl)) (hJ9_11_12_17 (v187, gb193) _ ⟨hHeld, (by (with_reducible repeat (first | apply Kd.R_alloc | apply Kd.R_drewN | apply Kd.R_drew)); exact HO188.out), (by (with_reducible repeat (first | refine zI ?_ _ | refine zJ ?_ | refine zK ?_ _)); exact BK177.out), (by (with_reducible repeat (first | refine zI ?_ _ | refine zJ ?_ | refine zK ?_ _)); exact BK193.out), GW193.out, GE193.out, NB177_193.out, NB193_177.out, (by repeat (first | (with_reducible first | exact HB.out | apply zG | apply zE | apply zF | refine zH ?_ GE177.out | refine zH ?_ GE193.out) | exact HB.out))⟩)
             ·
              skip
              rintro v187 w29 ⟨hS_, h0_, h1_, h2_⟩
              have n0_ : Aside0 (Kd.R (Kd.int .u8) 5 w29 w.heap.size (fun _ => True) v187 y186) := ⟨h0_⟩
              have n1_ : Aside0 (w29.heap[gb177]? = some (.cells #[.int .i64 0, .int .i64 0, .int .i64 0, .int .i64 0, .slice none 0 0] 24 (0, 0))) := ⟨h1_⟩
              have n2_ : Aside0 (Below w.heap.size w w29) := ⟨h2_⟩
              clear BK177
              clear HB
              clear h0_ h1_ h2_
              have HO188 := n0_
              have BK177 := n1_
              have HB := n2_
              clear n0_ n1_ n2_
              have hHeld : w29.cell? ⟨ad182.block, ad182.off + 8, none⟩ = some (.int .u8 (rd l0 8)) ∧ w29.cell? ⟨ad182.block, ad182.off + 9, none⟩ = some (.int .u8 (rd l0 9)) := hS_
              refine norm_ (a' := ?_) ?_ ?_
              rotate_left
              ·
               simp only [putAll, Act.put, zA, zB, zC]
               rfl
              refine two_ (i := 15) (j := 17) (Ni := some 54) (Nj := some 4) #[true, true, true, true, true, true, true, true, true, true, true, true, true, true, true, true, false, false, false] #[true, true, true, true, true, true, true, true, true, true, true, true, true, true, true, false, false, true, false] rfl rfl rfl rfl (two_of HT_.out (by kernel_rfl)) (by decide) (by decide) (fun K hK => ?_) (fun K hK => ?_)
              ·
               skip
               refine Kd.R_append_rows_step (Kd.int .u8) (w0 := w) w.heap.size (by rfl) (.tmp 51) (.tmp 53) 22 5 (.int .u8 0) 1 rfl Tryd.underlying22 info5 rfl (by decide) (by omega) v187 y186 (l0.drop 20) _ _ _ (fun _ => True) (fun _ => False) rfl rfl ?aO ?aR (fun _ _ h => h) (fun _ h => h.elim) ?aF ?aB ?aS ?aL ?_
               (case aR => first | (rw [← show (l0.drop 20).length = (l0.length - 20) from List.length_drop]; repeat (first | exact (Kd.C_below HR189.out HB.out) | (with_reducible refine Kd.C_alloc ?_ _) | (with_reducible refine Kd.C_drewN ?_ _) | (with_reducible refine Kd.C_drew ?_))) | (repeat (first | exact (Kd.C_below HR189.out HB.out) | (with_reducible refine Kd.C_alloc ?_ _) | (with_reducible refine Kd.C_drewN ?_ _) | (with_reducible refine Kd.C_drew ?_))))
               (case aB => exact (by repeat (first | (with_reducible first | exact HB.out | apply zG | apply zE | apply zF | refine zH ?_ GE177.out) | exact HB.out)))
               (case aF => exact (fun _ _ => trivial))
               (case aO => exact (by (with_reducible repeat (first | apply Kd.R_alloc | apply Kd.R_drewN | apply Kd.R_drew)); exact HO188.out))
               (case aS => exact (below_size (by repeat (first | (with_reducible first | exact HB.out | apply zG | apply zE | apply zF | refine zH ?_ GE177.out) | exact HB.out))))
               (case aL => have := LMc22.out; have hlx_ := (show (l0.drop 20).length = (l0.length - 20) from List.length_drop); omega)
               intro v191 w30 ho hb hg hat
               rw [← Ny190.out] at ho
               have n0_ := Aside0.mk (blk_grown (g := gb177) (o := .cells #[.int .i64 0, .int .i64 0, .int .i64 0, .int .i64 0, .slice none 0 0] 24 (0, 0)) (by (with_reducible repeat (first | refine zI ?_ _ | refine zJ ?_ | refine zK ?_ _)); exact BK177.out) hg (Kd.R_ne HO188.out BK177.out (by decide)))
               have n1_ := Aside0.mk (hb)
               have n2_ := Aside0.mk (ho)
               clear BK177
               clear HB
               clear HO188
               have BK177 := n0_
               have HB := n1_
               have HO192 := n2_
               clear n0_ n1_ n2_
               clear ho hb hg hat
               obtain ⟨Ao31, co31, eo31⟩ := Kd.R_slice HO192.out
               (first | subst eo31 | (injection eo31 with f1_ f2_ f3_; have f4_ := f1_.symm; have f5_ := f3_.symm; clear f1_ f2_ f3_; subst f4_; subst f5_))
               refine hK.out _ _ ⟨((HB.out.cell (zD w _ hw182_0)).trans hw182_0), ((HB.out.cell (zD w _ hw183_0)).trans hw183_0)⟩ (fun hHeld => ?_)
               clear hK K
               refine norm_ (a' := ?_) ?_ ?_
               rotate_left
               ·
                show Act.put _ (some 54) _ = _
                simp only [Act.put, zA, zB, zC, i64_w, i32_w]
                rfl
               refine pure_ (i := 16) (N := some 55) (v := ?_) (a' := ?_) #[true, true, true, true, true, true, true, true, true, true, true, true, true, true, true, true, true, false, false] rfl rfl (any_of HT_.out (by kernel_rfl)) (fun _ _ _ h => h) (Or.inl ⟨by rfl, ?_⟩) ?_ ?_
               rotate_left
               ·
                intro w'
                go_simp
                with_reducible rfl
               rotate_left
               ·
                simp only [Act.put, zA, zB, zC, i64_w, i32_w]
                rfl
               exact norm_ (by first | (simp only [putAll, Act.put, zA, zB, zC]; done) | (simp only [putAll, Act.put, zA, zB, zC]; rfl)) (hJ9_11_12_15 (v187, .slice Ao31 y190.length co31) _ ⟨hHeld, (by (with_reducible repeat (first | apply Kd.R_alloc | apply Kd.R_drewN | apply Kd.R_drew)); exact HO192.out), (by (with_reducible repeat (first | refine zI ?_ _ | refine zJ ?_ | refine zK ?_ _)); exact BK177.out), (by repeat (first | (with_reducible first | exact HB.out | apply zG | apply zE | apply zF | refine zH ?_ GE177.out) | exact HB.out))⟩)
              ·
               skip
               refine box_step ?hg (N := 4) ?hd (cs := #[.int .i64 0, .int .i64 0, .int .i64 0, .int .i64 0, .slice none 0 0]) (t := 24) ?hr ?_; (case hd => rfl); (case hg => rfl); (case hr => first | (go_simp; done) | (go_simp; rfl))
               intro gb193 hg w30 hbox hb
               have n0_ := Aside0.mk (Kd.R_below (by (with_reducible repeat (first | apply Kd.R_alloc | apply Kd.R_drewN | apply Kd.R_drew)); exact HO188.out) hb)
               have n1_ := Aside0.mk (blk_below (g := gb177) (o := .cells #[.int .i64 0, .int .i64 0, .int .i64 0, .int .i64 0, .slice none 0 0] 24 (0, 0)) (by (with_reducible repeat (first | refine zI ?_ _ | refine zJ ?_ | refine zK ?_ _)); exact BK177.out) hb)
               have n2_ := Aside0.mk (below_step (by repeat (first | (with_reducible first | exact HB.out | apply zG | apply zE | apply zF | refine zH ?_ GE177.out) | exact HB.out)) hb)
               have n3_ := Aside0.mk (hbox)
               have n4_ := Aside0.mk ((by rw [hg]; exact (below_size (by repeat (first | (with_reducible first | exact HB.out | apply zG | apply zE | apply zF | refine zH ?_ GE177.out) | exact HB.out))) : w.heap.size ≤ gb193))
               have n5_ := Aside0.mk ((by rw [hg]; exact (below_size (by repeat (first | (with_reducible first | exact HB.out | apply zG | apply zE | apply zF | refine zH ?_ GE177.out) | exact HB.out))) : w.heap.size ≤ gb193))
               have n6_ := Aside0.mk ((by rw [hg]; exact zM (blk_lt (g := gb177) (o := .cells #[.int .i64 0, .int .i64 0, .int .i64 0, .int .i64 0, .slice none 0 0] 24 (0, 0)) (by (with_reducible repeat (first | refine zI ?_ _ | refine zJ ?_ | refine zK ?_ _)); exact BK177.out)) : gb177 ≠ gb193))
               have n7_ := Aside0.mk ((by rw [hg]; exact Nat.ne_of_gt (blk_lt (g := gb177) (o := .cells #[.int .i64 0, .int .i64 0, .int .i64 0, .int .i64 0, .slice none 0 0] 24 (0, 0)) (by (with_reducible repeat (first | refine zI ?_ _ | refine zJ ?_ | refine zK ?_ _)); exact BK177.out)) : gb193 ≠ gb177))
               clear HO188
               clear BK177
               clear HB
               have HO188 := n0_
               have BK177 := n1_
               have HB := n2_
               have BK193 := n3_
               have GW193 := n4_
               have GE193 := n5_
               have NB177_193 := n6_
               have NB193_177 := n7_
               clear n0_ n1_ n2_ n3_ n4_ n5_ n6_ n7_
               clear hb hbox hg
               refine hK.out _ _ ⟨((HB.out.cell (zD w _ hw182_0)).trans hw182_0), ((HB.out.cell (zD w _ hw183_0)).trans hw183_0)⟩ (fun hHeld => ?_)
               clear hK K
               refine norm_ (a' := ?_) ?_ ?_
               rotate_left
               ·
                show Act.put _ (some 4) _ = _
                simp only [Act.put, zA, zB, zC, i64_w, i32_w]
                rfl
               exact norm_ (by first | (simp only [putAll, Act.put, zA, zB, zC]; done) | (simp only [putAll, Act.put, zA, zB, zC]; rfl)) (hJ9_11_12_17 (v187, gb193) _ ⟨hHeld, (by (with_reducible repeat (first | apply Kd.R_alloc | apply Kd.R_drewN | apply Kd.R_drew)); exact HO188.out), (by (with_reducible repeat (first | refine zI ?_ _ | refine zJ ?_ | refine zK ?_ _)); exact BK177.out), (by (with_reducible repeat (first | refine zI ?_ _ | refine zJ ?_ | refine zK ?_ _)); exact BK193.out), GW193.out, GE193.out, NB177_193.out, NB193_177.out, (by repeat (first | (with_reducible first | exact HB.out | apply zG | apply zE | apply zF | refine zH ?_ GE177.out | refine zH ?_ GE193.out) | exact HB.out))⟩)
            ·
             skip
             rintro ⟨v187, gb193⟩ w30 ⟨hS_, h0_, h1_, h2_, h3_, h4_, h5_, h6_, h7_⟩
             have n0_ : Aside0 (Kd.R (Kd.int .u8) 5 w30 w.heap.size (fun _ => True) v187 y186) := ⟨h0_⟩
             have n1_ : Aside0 (w30.heap[gb177]? = some (.cells #[.int .i64 0, .int .i64 0, .int .i64 0, .int .i64 0, .slice none 0 0] 24 (0, 0))) := ⟨h1_⟩
             have n2_ : Aside0 (w30.heap[gb193]? = some (.cells #[.int .i64 0, .int .i64 0, .int .i64 0, .int .i64 0, .slice none 0 0] 24 (0, 0))) := ⟨h2_⟩
             have n3_ : Aside0 (w.heap.size ≤ gb193) := ⟨h3_⟩
             have n4_ : Aside0 (w.heap.size ≤ gb193) := ⟨h4_⟩
             have n5_ : Aside0 (gb177 ≠ gb193) := ⟨h5_⟩
             have n6_ : Aside0 (gb193 ≠ gb177) := ⟨h6_⟩
             have n7_ : Aside0 (Below w.heap.size w w30) := ⟨h7_⟩
             clear BK177
             clear HB
             clear h0_ h1_ h2_ h3_ h4_ h5_ h6_ h7_
             have HO188 := n0_
             have BK177 := n1_
             have BK193 := n2_
             have GW193 := n3_
             have GE193 := n4_
             have NB177_193 := n5_
             have NB193_177 := n6_
             have HB := n7_
             clear n0_ n1_ n2_ n3_ n4_ n5_ n6_ n7_
             have hHeld : w30.cell? ⟨ad182.block, ad182.off + 8, none⟩ = some (.int .u8 (rd l0 8)) ∧ w30.cell? ⟨ad182.block, ad182.off + 9, none⟩ = some (.int .u8 (rd l0 9)) := hS_
             refine norm_ (a' := ?_) ?_ ?_
             rotate_left
             ·
              simp only [putAll, Act.put, zA, zB, zC]
              rfl
             refine one_ (i := 15) (N := some 54) #[true, true, true, true, true, true, true, true, true, true, true, true, true, true, true, true, false, true, false] rfl rfl (one_of HT_.out (by kernel_rfl)) (by decide) (fun K hK => ?_)
             refine Kd.R_append_rows_step (Kd.int .u8) (w0 := w) w.heap.size (by rfl) (.tmp 51) (.tmp 53) 22 5 (.int .u8 0) 1 rfl Tryd.underlying22 info5 rfl (by decide) (by omega) v187 y186 (l0.drop 20) _ _ _ (fun _ => True) (fun _ => False) rfl rfl ?aO ?aR (fun _ _ h => h) (fun _ h => h.elim) ?aF ?aB ?aS ?aL ?_
             (case aR => first | (rw [← show (l0.drop 20).length = (l0.length - 20) from List.length_drop]; repeat (first | exact (Kd.C_below HR189.out HB.out) | (with_reducible refine Kd.C_alloc ?_ _) | (with_reducible refine Kd.C_drewN ?_ _) | (with_reducible refine Kd.C_drew ?_))) | (repeat (first | exact (Kd.C_below HR189.out HB.out) | (with_reducible refine Kd.C_alloc ?_ _) | (with_reducible refine Kd.C_drewN ?_ _) | (with_reducible refine Kd.C_drew ?_))))
             (case aB => exact (by repeat (first | (with_reducible first | exact HB.out | apply zG | apply zE | apply zF | refine zH ?_ GE177.out | refine zH ?_ GE193.out) | exact HB.out)))
             (case aF => exact (fun _ _ => trivial))
             (case aO => exact (by (with_reducible repeat (first | apply Kd.R_alloc | apply Kd.R_drewN | apply Kd.R_drew)); exact HO188.out))
             (case aS => exact (below_size (by repeat (first | (with_reducible first | exact HB.out | apply zG | apply zE | apply zF | refine zH ?_ GE177.out | refine zH ?_ GE193.out) | exact HB.out))))
             (case aL => have := LMc22.out; have hlx_ := (show (l0.drop 20).length = (l0.length - 20) from List.length_drop); omega)
             intro v191 w31 ho hb hg hat
             rw [← Ny190.out] at ho
             have n0_ := Aside0.mk (blk_grown (g := gb177) (o := .cells #[.int .i64 0, .int .i64 0, .int .i64 0, .int .i64 0, .slice none 0 0] 24 (0, 0)) (by (with_reducible repeat (first | refine zI ?_ _ | refine zJ ?_ | refine zK ?_ _)); exact BK177.out) hg (Kd.R_ne HO188.out BK177.out (by decide)))
             have n1_ := Aside0.mk (blk_grown (g := gb193) (o := .cells #[.int .i64 0, .int .i64 0, .int .i64 0, .int .i64 0, .slice none 0 0] 24 (0, 0)) (by (with_reducible repeat (first | refine zI ?_ _ | refine zJ ?_ | refine zK ?_ _)); exact BK193.out) hg (Kd.R_ne HO188.out BK193.out (by decide)))
             have n2_ := Aside0.mk (hb)
             have n3_ := Aside0.mk (ho)
             clear BK177
             clear BK193
             clear HB
             clear HO188
             have BK177 := n0_
             have BK193 := n1_
             have HB := n2_
             have HO192 := n3_
             clear n0_ n1_ n2_ n3_
             clear ho hb hg hat
             obtain ⟨Ao32, co32, eo32⟩ := Kd.R_slice HO192.out
             (first | subst eo32 | (injection eo32 with f1_ f2_ f3_; have f4_ := f1_.symm; have f5_ := f3_.symm; clear f1_ f2_ f3_; subst f4_; subst f5_))
             refine hK.out _ _ ⟨((HB.out.cell (zD w _ hw182_0)).trans hw182_0), ((HB.out.cell (zD w _ hw183_0)).trans hw183_0)⟩ (fun hHeld => ?_)
             clear hK K
             refine norm_ (a' := ?_) ?_ ?_
             rotate_left
             ·
              show Act.put _ (some 54) _ = _
              simp only [Act.put, zA, zB, zC, i64_w, i32_w]
              rfl
             refine pure_ (i := 16) (N := some 55) (v := ?_) (a' := ?_) #[true, true, true, true, true, true, true, true, true, true, true, true, true, true, true, true, true, true, false] rfl rfl (any_of HT_.out (by kernel_rfl)) (fun _ _ _ h => h) (Or.inl ⟨by rfl, ?_⟩) ?_ ?_
             rotate_left
             ·
              intro w'
              go_simp
              with_reducible rfl
             rotate_left
             ·
              simp only [Act.put, zA, zB, zC, i64_w, i32_w]
              rfl
             exact norm_ (by first | (simp only [putAll, Act.put, zA, zB, zC]; done) | (simp only [putAll, Act.put, zA, zB, zC]; rfl)) (hJ9_11_12_15_17 (v187, .slice Ao32 y190.length co32, gb193) _ ⟨hHeld, (by (with_reducible repeat (first | apply Kd.R_alloc | apply Kd.R_drewN | apply Kd.R_drew)); exact HO192.out), (by (with_reducible repeat (first | refine zI ?_ _ | refine zJ ?_ | refine zK ?_ _)); exact BK177.out), (by (with_reducible repeat (first | refine zI ?_ _ | refine zJ ?_ | refine zK ?_ _)); exact BK193.out), GW193.out, GE193.out, NB177_193.out, NB193_177.out, (by repeat (first | (with_reducible first | exact HB.out | apply zG | apply zE | apply zF | refine zH ?_ GE177.out | refine zH ?_ GE193.out) | exact HB.out))⟩)
           ·
            skip
            rintro ⟨v187, v191⟩ w31 ⟨hS_, h0_, h1_, h2_⟩
            have n0_ : Aside0 (Kd.R (Kd.int .u8) 5 w31 w.heap.size (fun _ => True) v191 y190) := ⟨h0_⟩
            have n1_ : Aside0 (w31.heap[gb177]? = some (.cells #[.int .i64 0, .int .i64 0, .int .i64 0, .int .i64 0, .slice none 0 0] 24 (0, 0))) := ⟨h1_⟩
            have n2_ : Aside0 (Below w.heap.size w w31) := ⟨h2_⟩
            clear BK177
            clear HB
            clear h0_ h1_ h2_
            have HO192 := n0_
            have BK177 := n1_
            have HB := n2_
            clear n0_ n1_ n2_
            have hHeld : w31.cell? ⟨ad182.block, ad182.off + 8, none⟩ = some (.int .u8 (rd l0 8)) ∧ w31.cell? ⟨ad182.block, ad182.off + 9, none⟩ = some (.int .u8 (rd l0 9)) := hS_
            obtain ⟨Ao32, co32, eo32⟩ := Kd.R_slice HO192.out
            (first | subst eo32 | (injection eo32 with f1_ f2_ f3_; have f4_ := f1_.symm; have f5_ := f3_.symm; clear f1_ f2_ f3_; subst f4_; subst f5_))
            refine norm_ (a' := ?_) ?_ ?_
            rotate_left
            ·
             simp only [putAll, Act.put, zA, zB, zC]
             rfl
            refine one_ (i := 17) (N := some 4) #[true, true, true, true, true, true, true, true, true, true, true, true, true, true, true, true, true, true, false] rfl rfl (one_of HT_.out (by kernel_rfl)) (by decide) (fun K hK => ?_)
            refine box_step ?hg (N := 4) ?hd (cs := #[.int .i64 0, .int .i64 0, .int .i64 0, .int .i64 0, .slice none 0 0]) (t := 24) ?hr ?_; (case hd => rfl); (case hg => rfl); (case hr => first | (go_simp; done) | (go_simp; rfl))
            intro gb193 hg w33 hbox hb
            have n0_ := Aside0.mk (Kd.R_below (by (with_reducible repeat (first | apply Kd.R_alloc | apply Kd.R_drewN | apply Kd.R_drew)); exact HO192.out) hb)
            have n1_ := Aside0.mk (blk_below (g := gb177) (o := .cells #[.int .i64 0, .int .i64 0, .int .i64 0, .int .i64 0, .slice none 0 0] 24 (0, 0)) (by (with_reducible repeat (first | refine zI ?_ _ | refine zJ ?_ | refine zK ?_ _)); exact BK177.out) hb)
            have n2_ := Aside0.mk (below_step (by repeat (first | (with_reducible first | exact HB.out | apply zG | apply zE | apply zF | refine zH ?_ GE177.out) | exact HB.out)) hb)
            have n3_ := Aside0.mk (hbox)
            have n4_ := Aside0.mk ((by rw [hg]; exact (below_size (by repeat (first | (with_reducible first | exact HB.out | apply zG | apply zE | apply zF | refine zH ?_ GE177.out) | exact HB.out))) : w.heap.size ≤ gb193))
            have n5_ := Aside0.mk ((by rw [hg]; exact (below_size (by repeat (first | (with_reducible first | exact HB.out | apply zG | apply zE | apply zF | refine zH ?_ GE177.out) | exact HB.out))) : w.heap.size ≤ gb193))
            have n6_ := Aside0.mk ((by rw [hg]; exact zM (blk_lt (g := gb177) (o := .cells #[.int .i64 0, .int .i64 0, .int .i64 0, .int .i64 0, .slice none 0 0] 24 (0, 0)) (by (with_reducible repeat (first | refine zI ?_ _ | refine zJ ?_ | refine zK ?_ _)); exact BK177.out)) : gb177 ≠ gb193))
            have n7_ := Aside0.mk ((by rw [hg]; exact Nat.ne_of_gt (blk_lt (g := gb177) (o := .cells #[.int .i64 0, .int .i64 0, .int .i64 0, .int .i64 0, .slice none 0 0] 24 (0, 0)) (by (with_reducible repeat (first | refine zI ?_ _ | refine zJ ?_ | refine zK ?_ _)); exact BK177.out)) : gb193 ≠ gb177))
            clear HO192
            clear BK177
            clear HB
            have HO192 := n0_
            have BK177 := n1_
            have HB := n2_
            have BK193 := n3_
            have GW193 := n4_
            have GE193 := n5_
            have NB177_193 := n6_
            have NB193_177 := n7_
            clear n0_ n1_ n2_ n3_ n4_ n5_ n6_ n7_
            clear hb hbox hg
            refine hK.out _ _ ⟨((HB.out.cell (zD w _ hw182_0)).trans hw182_0), ((HB.out.cell (zD w _ hw183_0)).trans hw183_0)⟩ (fun hHeld => ?_)
            clear hK K
            refine norm_ (a' := ?_) ?_ ?_
            rotate_left
            ·
             show Act.put _ (some 4) _ = _
             simp only [Act.put, zA, zB, zC, i64_w, i32_w]
             rfl
            exact norm_ (by first | (simp only [putAll, Act.put, zA, zB, zC]; done) | (simp only [putAll, Act.put, zA, zB, zC]; rfl)) (hJ9_11_12_15_17 (v187, .slice Ao32 y190.length co32, gb193) _ ⟨hHeld, (by (with_reducible repeat (first | apply Kd.R_alloc | apply Kd.R_drewN | apply Kd.R_drew)); exact HO192.out), (by (with_reducible repeat (first | refine zI ?_ _ | refine zJ ?_ | refine zK ?_ _)); exact BK177.out), (by (with_reducible repeat (first | refine zI ?_ _ | refine zJ ?_ | refine zK ?_ _)); exact BK193.out), GW193.out, GE193.out, NB177_193.out, NB193_177.out, (by repeat (first | (with_reducible first | exact HB.out | apply zG | apply zE | apply zF | refine zH ?_ GE177.out | refine zH ?_ GE193.out) | exact HB.out))⟩)
          rintro ⟨v187, v191, gb193⟩ w32 ⟨hS_, h0_, h1_, h2_, h3_, h4_, h5_, h6_, h7_⟩
          have n0_ : Aside0 (Kd.R (Kd.int .u8) 5 w32 w.heap.size (fun _ => True) v191 y190) := ⟨h0_⟩
          have n1_ : Aside0 (w32.heap[gb177]? = some (.cells #[.int .i64 0, .int .i64 0, .int .i64 0, .int .i64 0, .slice none 0 0] 24 (0, 0))) := ⟨h1_⟩
          have n2_ : Aside0 (w32.heap[gb193]? = some (.cells #[.int .i64 0, .int .i64 0, .int .i64 0, .int .i64 0, .slice none 0 0] 24 (0, 0))) := ⟨h2_⟩
          have n3_ : Aside0 (w.heap.size ≤ gb193) := ⟨h3_⟩
          have n4_ : Aside0 (w.heap.size ≤ gb193) := ⟨h4_⟩
          have n5_ : Aside0 (gb177 ≠ gb193) := ⟨h5_⟩
          have n6_ : Aside0 (gb193 ≠ gb177) := ⟨h6_⟩
          have n7_ : Aside0 (Below w.heap.size w w32) := ⟨h7_⟩
          clear BK177
          clear HB
          clear h0_ h1_ h2_ h3_ h4_ h5_ h6_ h7_
          have HO192 := n0_
          have BK177 := n1_
          have BK193 := n2_
          have GW193 := n3_
          have GE193 := n4_
          have NB177_193 := n5_
          have NB193_177 := n6_
          have HB := n7_
          clear n0_ n1_ n2_ n3_ n4_ n5_ n6_ n7_
          have hHeld : w32.cell? ⟨ad182.block, ad182.off + 8, none⟩ = some (.int .u8 (rd l0 8)) ∧ w32.cell? ⟨ad182.block, ad182.off + 9, none⟩ = some (.int .u8 (rd l0 9)) := hS_
          obtain ⟨Ao33, co33, eo33⟩ := Kd.R_slice HO192.out
          (first | subst eo33 | (injection eo33 with f1_ f2_ f3_; have f4_ := f1_.symm; have f5_ := f3_.symm; clear f1_ f2_ f3_; subst f4_; subst f5_))
          refine norm_ (a' := ?_) ?_ ?_
          rotate_left
          ·
           simp only [putAll, Act.put, zA, zB, zC]
           rfl
          refine one_ (i := 18) (N := none) #[true, true, true, true, true, true, true, true, true, true, true, true, true, true, true, true, true, true, true] rfl rfl (one_of HT_.out (by kernel_rfl)) (by decide) (fun K hK => ?_)
          have hs34 : w32.cell? ⟨gb193, 0, none⟩ = some (.int .i64 0) := (blk_cell BK193.out 0).trans rfl
          have hfs34 := blk_frozen BK193.out 0
          have hns34_0 := NB177_193.out
          have hms34_0 := NB193_177.out
          have hs35 : w32.cell? ⟨gb193, 1, none⟩ = some (.int .i64 0) := (blk_cell BK193.out 1).trans rfl
          have hfs35 := blk_frozen BK193.out 1
          have hns35_0 := NB177_193.out
          have hms35_0 := NB193_177.out
          have hs36 : w32.cell? ⟨gb193, 2, none⟩ = some (.int .i64 0) := (blk_cell BK193.out 2).trans rfl
          have hfs36 := blk_frozen BK193.out 2
          have hns36_0 := NB177_193.out
          have hms36_0 := NB193_177.out
          have hs37 : w32.cell? ⟨gb193, 3, none⟩ = some (.int .i64 0) := (blk_cell BK193.out 3).trans rfl
          have hfs37 := blk_frozen BK193.out 3
          have hns37_0 := NB177_193.out
          have hms37_0 := NB193_177.out
          have hs38 : w32.cell? ⟨gb193, 4, none⟩ = some (.slice none 0 0) := (blk_cell BK193.out 4).trans rfl
          have hfs38 := blk_frozen BK193.out 4
          have hns38_0 := NB177_193.out
          have hms38_0 := NB193_177.out
          refine skip_ (w1 := ?_) (by rfl) rfl ?_ ?_
          rotate_left
          ·
           go_simp
           rfl
          refine hK.out _ _ ⟨((zO (p := ⟨gb193, _, none⟩) (by first | exact zM (zL (by have := zD _ _ hw182_0; first | rwa [zN] at this | exact this) GW193.out) | (rw [zN]; exact zM (zL (by have := zD _ _ hw182_0; first | rwa [zN] at this | exact this) GW193.out)) | (show (Addr.add _ _).block ≠ _; rw [zN]; exact zM (zL (by have := zD _ _ hw182_0; first | rwa [zN] at this | exact this) GW193.out)) | (dsimp only; exact zM (zL (by have := zD _ _ hw182_0; first | rwa [zN] at this | exact this) GW193.out))) _).trans (((zO (p := ⟨gb193, _, none⟩) (by first | exact zM (zL (by have := zD _ _ hw182_0; first | rwa [zN] at this | exact this) GW193.out) | (rw [zN]; exact zM (zL (by have := zD _ _ hw182_0; first | rwa [zN] at this | exact this) GW193.out)) | (show (Addr.add _ _).block ≠ _; rw [zN]; exact zM (zL (by have := zD _ _ hw182_0; first | rwa [zN] at this | exact this) GW193.out)) | (dsimp only; exact zM (zL (by have := zD _ _ hw182_0; first | rwa [zN] at this | exact this) GW193.out))) _).trans (((zO (p := ⟨gb193, _, none⟩) (by first | exact zM (zL (by have := zD _ _ hw182_0; first | rwa [zN] at this | exact this) GW193.out) | (rw [zN]; exact zM (zL (by have := zD _ _ hw182_0; first | rwa [zN] at this | exact this) GW193.out)) | (show (Addr.add _ _).block ≠ _; rw [zN]; exact zM (zL (by have := zD _ _ hw182_0; first | rwa [zN] at this | exact this) GW193.out)) | (dsimp only; exact zM (zL (by have := zD _ _ hw182_0; first | rwa [zN] at this | exact this) GW193.out))) _).trans (((zO (p := ⟨gb193, _, none⟩) (by first | exact zM (zL (by have := zD _ _ hw182_0; first | rwa [zN] at this | exact this) GW193.out) | (rw [zN]; exact zM (zL (by have := zD _ _ hw182_0; first | rwa [zN] at this | exact this) GW193.out)) | (show (Addr.add _ _).block ≠ _; rw [zN]; exact zM (zL (by have := zD _ _ hw182_0; first | rwa [zN] at this | exact this) GW193.out)) | (dsimp only; exact zM (zL (by have := zD _ _ hw182_0; first | rwa [zN] at this | exact this) GW193.out))) _).trans (((zO (p := ⟨gb193, _, none⟩) (by first | exact zM (zL (by have := zD _ _ hw182_0; first | rwa [zN] at this | exact this) GW193.out) | (rw [zN]; exact zM (zL (by have := zD _ _ hw182_0; first | rwa [zN] at this | exact this) GW193.out)) | (show (Addr.add _ _).block ≠ _; rw [zN]; exact zM (zL (by have := zD _ _ hw182_0; first | rwa [zN] at this | exact this) GW193.out)) | (dsimp only; exact zM (zL (by have := zD _ _ hw182_0; first | rwa [zN] at this | exact this) GW193.out))) _).trans (hHeld.1)))))))))), ((zO (p := ⟨gb193, _, none⟩) (by first | exact zM (zL (by have := zD _ _ hw183_0; first | rwa [zN] at this | exact this) GW193.out) | (rw [zN]; exact zM (zL (by have := zD _ _ hw183_0; first | rwa [zN] at this | exact this) GW193.out)) | (show (Addr.add _ _).block ≠ _; rw [zN]; exact zM (zL (by have := zD _ _ hw183_0; first | rwa [zN] at this | exact this) GW193.out)) | (dsimp only; exact zM (zL (by have := zD _ _ hw183_0; first | rwa [zN] at this | exact this) GW193.out))) _).trans (((zO (p := ⟨gb193, _, none⟩) (by first | exact zM (zL (by have := zD _ _ hw183_0; first | rwa [zN] at this | exact this) GW193.out) | (rw [zN]; exact zM (zL (by have := zD _ _ hw183_0; first | rwa [zN] at this | exact this) GW193.out)) | (show (Addr.add _ _).block ≠ _; rw [zN]; exact zM (zL (by have := zD _ _ hw183_0; first | rwa [zN] at this | exact this) GW193.out)) | (dsimp only; exact zM (zL (by have := zD _ _ hw183_0; first | rwa [zN] at this | exact this) GW193.out))) _).trans (((zO (p := ⟨gb193, _, none⟩) (by first | exact zM (zL (by have := zD _ _ hw183_0; first | rwa [zN] at this | exact this) GW193.out) | (rw [zN]; exact zM (zL (by have := zD _ _ hw183_0; first | rwa [zN] at this | exact this) GW193.out)) | (show (Addr.add _ _).block ≠ _; rw [zN]; exact zM (zL (by have := zD _ _ hw183_0; first | rwa [zN] at this | exact this) GW193.out)) | (dsimp only; exact zM (zL (by have := zD _ _ hw183_0; first | rwa [zN] at this | exact this) GW193.out))) _).trans (((zO (p := ⟨gb193, _, none⟩) (by first | exact zM (zL (by have := zD _ _ hw183_0; first | rwa [zN] at this | exact this) GW193.out) | (rw [zN]; exact zM (zL (by have := zD _ _ hw183_0; first | rwa [zN] at this | exact this) GW193.out)) | (show (Addr.add _ _).block ≠ _; rw [zN]; exact zM (zL (by have := zD _ _ hw183_0; first | rwa [zN] at this | exact this) GW193.out)) | (dsimp only; exact zM (zL (by have := zD _ _ hw183_0; first | rwa [zN] at this | exact this) GW193.out))) _).trans (((zO (p := ⟨gb193, _, none⟩) (by first | exact zM (zL (by have := zD _ _ hw183_0; first | rwa [zN] at this | exact this) GW193.out) | (rw [zN]; exact zM (zL (by have := zD _ _ hw183_0; first | rwa [zN] at this | exact this) GW193.out)) | (show (Addr.add _ _).block ≠ _; rw [zN]; exact zM (zL (by have := zD _ _ hw183_0; first | rwa [zN] at this | exact this) GW193.out)) | (dsimp only; exact zM (zL (by have := zD _ _ hw183_0; first | rwa [zN] at this | exact this) GW193.out))) _).trans (hHeld.2))))))))))⟩ (fun hHeld => ?_)
          clear hK K
          refine done_ (done_of HT_.out (by kernel_rfl)) ?_
          have hnb39 := NB193_177.out
          have hnc39 := NB177_193.out
          have hcz40_0 : w32.cell? ⟨gb193, 0, none⟩ = some (.int .i64 0) := (blk_cell BK193.out 0).trans rfl
          have hcz40_1 : w32.cell? ⟨gb193, 1, none⟩ = some (.int .i64 0) := (blk_cell BK193.out 1).trans rfl
          have hcz40_2 : w32.cell? ⟨gb193, 2, none⟩ = some (.int .i64 0) := (blk_cell BK193.out 2).trans rfl
          have hcz40_3 : w32.cell? ⟨gb193, 3, none⟩ = some (.int .i64 0) := (blk_cell BK193.out 3).trans rfl
          have hcz40_4 : w32.cell? ⟨gb193, 4, none⟩ = some (.slice none 0 0) := (blk_cell BK193.out 4).trans rfl
          have hfz40_0 := blk_frozen BK193.out 0
          have hfz40_1 := blk_frozen BK193.out 1
          have hfz40_2 := blk_frozen BK193.out 2
          have hfz40_3 := blk_frozen BK193.out 3
          have hfz40_4 := blk_frozen BK193.out 4
          try go_wp2_with (first | ((with_reducible refine gate_callee (f := 10) rfl ?_); refine goesL_ (some 58) rfl rfl Tryd.func10 (by kernel_rfl) rfl #[.agg #[.int .i64 (wrap64 (rd l0 8)), .int .i64 (wrap64 (rd l0 9)), .int .i64 t184, .int .i64 t185, .slice Ao33 y190.length co33]] rfl (by (try simp only [List.map_toArray, List.map_cons, List.map_nil]); first | done | rfl | (simp only [List.length_drop, List.length_take]; rfl)) ?_; (with_reducible refine (plenumref1_PutIp.calls kj4 (wrap64 (rd l0 8)) (wrap64 (rd l0 9)) t184 t185 _ _ y190 t194 t197 _ ?side1 ?side2 A23.out).mono ?_); (case side1 => refine (Kd.R_reads' (e := 5) (base := w.heap.size) (ok := fun k_ => True) (n := y190.length) (c := co33) ?_).2.2; exact (by (with_reducible repeat (first | apply Kd.R_alloc | apply Kd.R_drewN | apply Kd.R_drew)); exact (Kd.R_mono (Kd.R_far (p := ⟨gb193, 4, none⟩) (Kd.R_far (p := ⟨gb193, 3, none⟩) (Kd.R_far (p := ⟨gb193, 2, none⟩) (Kd.R_far (p := ⟨gb193, 1, none⟩) (Kd.R_far (p := ⟨gb193, 0, none⟩) (Kd.R_types HO192.out BK193.out (by decide)) (fun _ hk => hk.2) (.int .i64 (wrap64 (rd l0 8)))) (fun _ hk => hk.2) (.int .i64 (wrap64 (rd l0 9)))) (fun _ hk => hk.2) (.int .i64 t184)) (fun _ hk => hk.2) (.int .i64 t185)) (fun _ hk => hk.2) (.slice Ao33 y190.length co33)) (fun _ h_ => h_.1)))); (case side2 => exact (Kd.R_reads' HO192.out).2.1); rintro e w41 ⟨v195, rfl, ho0, hb⟩; refine ⟨_, rfl, ?_⟩; have n0_ := Aside0.mk (Kd.R_elder' (by (with_reducible repeat (first | apply Kd.R_alloc | apply Kd.R_drewN | apply Kd.R_drew)); exact (Kd.R_mono (Kd.R_far (p := ⟨gb193, 4, none⟩) (Kd.R_far (p := ⟨gb193, 3, none⟩) (Kd.R_far (p := ⟨gb193, 2, none⟩) (Kd.R_far (p := ⟨gb193, 1, none⟩) (Kd.R_far (p := ⟨gb193, 0, none⟩) (Kd.R_types HO192.out BK193.out (by decide)) (fun _ hk => hk.2) (.int .i64 (wrap64 (rd l0 8)))) (fun _ hk => hk.2) (.int .i64 (wrap64 (rd l0 9)))) (fun _ hk => hk.2) (.int .i64 t184)) (fun _ hk => hk.2) (.int .i64 t185)) (fun _ hk => hk.2) (.slice Ao33 y190.length co33)) (fun _ h_ => h_.1))) (Kd.R_base ho0) hb); have n1_ := Aside0.mk (Kd.R_lower (Kd.R_new' ho0 (Kd.R_lt (by (with_reducible repeat (first | apply Kd.R_alloc | apply Kd.R_drewN | apply Kd.R_drew)); exact (Kd.R_mono (Kd.R_far (p := ⟨gb193, 4, none⟩) (Kd.R_far (p := ⟨gb193, 3, none⟩) (Kd.R_far (p := ⟨gb193, 2, none⟩) (Kd.R_far (p := ⟨gb193, 1, none⟩) (Kd.R_far (p := ⟨gb193, 0, none⟩) (Kd.R_types HO192.out BK193.out (by decide)) (fun _ hk => hk.2) (.int .i64 (wrap64 (rd l0 8)))) (fun _ hk => hk.2) (.int .i64 (wrap64 (rd l0 9)))) (fun _ hk => hk.2) (.int .i64 t184)) (fun _ hk => hk.2) (.int .i64 t185)) (fun _ hk => hk.2) (.slice Ao33 y190.length co33)) (fun _ h_ => h_.1))))) (below_size (by repeat (first | (with_reducible first | exact HB.out | apply zG | apply zE | apply zF | refine zH ?_ GE177.out | refine zH ?_ GE193.out) | exact HB.out)))); have n2_ := Aside0.mk (blk_below (g := gb177) (o := .cells #[.int .i64 0, .int .i64 0, .int .i64 0, .int .i64 0, .slice none 0 0] 24 (0, 0)) (by (with_reducible repeat (first | refine zI ?_ _ | refine zJ ?_ | refine zK ?_ _)); refine blk_far ?_ NB177_193.out _; (with_reducible repeat (first | refine zI ?_ _ | refine zJ ?_ | refine zK ?_ _)); refine blk_far ?_ NB177_193.out _; (with_reducible repeat (first | refine zI ?_ _ | refine zJ ?_ | refine zK ?_ _)); refine blk_far ?_ NB177_193.out _; (with_reducible repeat (first | refine zI ?_ _ | refine zJ ?_ | refine zK ?_ _)); refine blk_far ?_ NB177_193.out _; (with_reducible repeat (first | refine zI ?_ _ | refine zJ ?_ | refine zK ?_ _)); refine blk_far ?_ NB177_193.out _; (with_reducible repeat (first | refine zI ?_ _ | refine zJ ?_ | refine zK ?_ _)); exact BK177.out) hb); have n3_ := Aside0.mk (blk_below (g := gb193) (o := .cells #[.int .i64 (wrap64 (rd l0 8)), .int .i64 (wrap64 (rd l0 9)), .int .i64 t184, .int .i64 t185, .slice Ao33 y190.length co33] 24 (0, 0)) (by (with_reducible repeat (first | refine zI ?_ _ | refine zJ ?_ | refine zK ?_ _)); refine blk_put (cs := #[.int .i64 (wrap64 (rd l0 8)), .int .i64 (wrap64 (rd l0 9)), .int .i64 t184, .int .i64 t185, .slice none 0 0]) ?_ 4 _ rfl; (with_reducible repeat (first | refine zI ?_ _ | refine zJ ?_ | refine zK ?_ _)); refine blk_put (cs := #[.int .i64 (wrap64 (rd l0 8)), .int .i64 (wrap64 (rd l0 9)), .int .i64 t184, .int .i64 0, .slice none 0 0]) ?_ 3 _ rfl; (with_reducible repeat (first | refine zI ?_ _ | refine zJ ?_ | refine zK ?_ _)); refine blk_put (cs := #[.int .i64 (wrap64 (rd l0 8)), .int .i64 (wrap64 (rd l0 9)), .int .i64 0, .int .i64 0, .slice none 0 0]) ?_ 2 _ rfl; (with_reducible repeat (first | refine zI ?_ _ | refine zJ ?_ | refine zK ?_ _)); refine blk_put (cs := #[.int .i64 (wrap64 (rd l0 8)), .int .i64 0, .int .i64 0, .int .i64 0, .slice none 0 0]) ?_ 1 _ rfl; (with_reducible repeat (first | refine zI ?_ _ | refine zJ ?_ | refine zK ?_ _)); refine blk_put (cs := #[.int .i64 0, .int .i64 0, .int .i64 0, .int .i64 0, .slice none 0 0]) ?_ 0 _ rfl; (with_reducible repeat (first | refine zI ?_ _ | refine zJ ?_ | refine zK ?_ _)); exact BK193.out) hb); have n4_ := Aside0.mk (below_step (by repeat (first | (with_reducible first | exact HB.out | apply zG | apply zE | apply zF | refine zH ?_ GE177.out | refine zH ?_ GE193.out) | exact HB.out)) hb); clear HO192; clear BK177; clear BK193; clear HB; have HO192 := n0_; have HO196 := n1_; have BK177 := n2_; have BK193 := n3_; have HB := n4_; clear n0_ n1_ n2_ n3_ n4_; (try clear hb); (try clear hb2); (try clear hk); (try clear hi); (try clear ho0); have hcv42 := own_string (P := Tryd.prog) Tryd.underlying22 Tryd.underlying5 Tryd.underlying9 (Kd.own_of_R HO196.out); have hcv43 := Kd.C_string (P := Tryd.prog) (A := (some ad182)) (c := c0) Tryd.underlying22 Tryd.underlying5 Tryd.underlying9 (Kd.C_below HR0.out HB.out); have hcz44_0 : w41.cell? ⟨gb193, 0, none⟩ = some (.int .i64 (wrap64 (rd l0 8))) := (blk_cell BK193.out 0).trans rfl; have hcz44_1 : w41.cell? ⟨gb193, 1, none⟩ = some (.int .i64 (wrap64 (rd l0 9))) := (blk_cell BK193.out 1).trans rfl; have hcz44_2 : w41.cell? ⟨gb193, 2, none⟩ = some (.int .i64 t184) := (blk_cell BK193.out 2).trans rfl; have hcz44_3 : w41.cell? ⟨gb193, 3, none⟩ = some (.int .i64 t185) := (blk_cell BK193.out 3).trans rfl; have hcz44_4 : w41.cell? ⟨gb193, 4, none⟩ = some (.slice Ao33 y190.length co33) := (blk_cell BK193.out 4).trans rfl; have hfz44_0 := blk_frozen BK193.out 0; have hfz44_1 := blk_frozen BK193.out 1; have hfz44_2 := blk_frozen BK193.out 2; have hfz44_3 := blk_frozen BK193.out 3; have hfz44_4 := blk_frozen BK193.out 4; have hcz45_0 : w41.cell? ⟨gb177, 0, none⟩ = some (.int .i64 0) := (blk_cell BK177.out 0).trans rfl; have hcz45_1 : w41.cell? ⟨gb177, 1, none⟩ = some (.int .i64 0) := (blk_cell BK177.out 1).trans rfl; have hcz45_2 : w41.cell? ⟨gb177, 2, none⟩ = some (.int .i64 0) := (blk_cell BK177.out 2).trans rfl; have hcz45_3 : w41.cell? ⟨gb177, 3, none⟩ = some (.int .i64 0) := (blk_cell BK177.out 3).trans rfl; have hcz45_4 : w41.cell? ⟨gb177, 4, none⟩ = some (.slice none 0 0) := (blk_cell BK177.out 4).trans rfl; have hfz45_0 := blk_frozen BK177.out 0; have hfz45_1 := blk_frozen BK177.out 1; have hfz45_2 := blk_frozen BK177.out 2; have hfz45_3 := blk_frozen BK177.out 3; have hfz45_4 := blk_frozen BK177.out 4))
          refine bodyPost_ret (results_ct rfl _ _ gb177 24 #[.int .i64 (wrap64 (rd l0 8)), .int .i64 (wrap64 (rd l0 9)), .int .i64 t184, .int .i64 t185, .slice Ao33 y190.length co33] (0, 0) _ rfl (by (with_reducible repeat (first | refine zI ?_ _ | refine zJ ?_ | refine zK ?_ _)); refine blk_put (cs := #[.int .i64 (wrap64 (rd l0 8)), .int .i64 (wrap64 (rd l0 9)), .int .i64 t184, .int .i64 t185, .slice none 0 0]) ?_ 4 _ rfl; (with_reducible repeat (first | refine zI ?_ _ | refine zJ ?_ | refine zK ?_ _)); refine blk_put (cs := #[.int .i64 (wrap64 (rd l0 8)), .int .i64 (wrap64 (rd l0 9)), .int .i64 t184, .int .i64 0, .slice none 0 0]) ?_ 3 _ rfl; (with_reducible repeat (first | refine zI ?_ _ | refine zJ ?_ | refine zK ?_ _)); refine blk_put (cs := #[.int .i64 (wrap64 (rd l0 8)), .int .i64 (wrap64 (rd l0 9)), .int .i64 0, .int .i64 0, .slice none 0 0]) ?_ 2 _ rfl; (with_reducible repeat (first | refine zI ?_ _ | refine zJ ?_ | refine zK ?_ _)); refine blk_put (cs := #[.int .i64 (wrap64 (rd l0 8)), .int .i64 0, .int .i64 0, .int .i64 0, .slice none 0 0]) ?_ 1 _ rfl; (with_reducible repeat (first | refine zI ?_ _ | refine zJ ?_ | refine zK ?_ _)); refine blk_put (cs := #[.int .i64 0, .int .i64 0, .int .i64 0, .int .i64 0, .slice none 0 0]) ?_ 0 _ rfl; (with_reducible repeat (first | refine zI ?_ _ | refine zJ ?_ | refine zK ?_ _)); exact BK177.out) Tryd.underlying24 rfl (by kernel_rfl)) rfl ?_
          exact ⟨_, by first | rfl | (simp [errW_none, errW_some] <;> rfl) | (simp [*, errW_none, errW_some] <;> rfl), by (with_reducible repeat (first | apply Kd.R_alloc | apply Kd.R_drewN | apply Kd.R_drew)); exact Kd.R_mono (Kd.R_far (p := ⟨gb177, 4, none⟩) (Kd.R_far (p := ⟨gb177, 3, none⟩) (Kd.R_far (p := ⟨gb177, 2, none⟩) (Kd.R_far (p := ⟨gb177, 1, none⟩) (Kd.R_far (p := ⟨gb177, 0, none⟩) (Kd.R_types HO192.out BK177.out (by decide)) (fun _ hk => hk.2) (.int .i64 (wrap64 (rd l0 8)))) (fun _ hk => hk.2) (.int .i64 (wrap64 (rd l0 9)))) (fun _ hk => hk.2) (.int .i64 t184)) (fun _ hk => hk.2) (.int .i64 t185)) (fun _ hk => hk.2) (.slice Ao33 y190.length co33)) (fun _ hk => trivial), by repeat (first | (with_reducible first | exact HB.out | apply zG | apply zE | apply zF | refine zH ?_ GE177.out | refine zH ?_ GE193.out) | exact HB.out)⟩
         ·
          rw [if_neg c24] at H
          have c24b0 : ((strOfNums t194).toList == (strOfNums l0).toList) = false := beq_eq_false_iff_ne.mpr c24
          have c24b1 : ((strOfNums t194).toList != (strOfNums l0).toList) = true := bne_iff_ne.mpr c24
          simp only [Option.some.injEq, Prod.mk.injEq] at H
          obtain ⟨rfl, rfl, rfl, rfl, rfl, rfl⟩ := H
          try go_wp2
          have n0_ := Aside0.mk (zJ BK177.out)
          have n1_ := Aside0.mk (zF HB.out)
          clear BK177
          clear HB
          have BK177 := n0_
          have HB := n1_
          clear n0_ n1_
          have p182 : 0 ≤ (8 : Int) := (by omega)
          have q182 : 8 < (l0.length : Int) := of_decide_eq_true (by first | (with_reducible assumption) | assumption)
          obtain ⟨ad182, e182, hx182_0⟩ := Kd.at_int HR0.out 8 p182 q182
          have hw182_0 := hx182_0
          (try rw [show ((8 : Int)).toNat = 8 from rfl] at hw182_0)
          (try rw [show 8 * 1 = 8 from rfl] at hw182_0)
          (try simp only [Nat.reduceMul, Nat.reduceEqDiff, Go.Addr.add, ↓reduceIte] at hw182_0)
          cases e182
          (try simp only [show (8 : Int).toNat = 8 from rfl, Nat.reduceMul, Nat.reduceEqDiff, Go.Addr.add, ↓reduceIte] at hx182_0)
          have qi182 : (8 < l0.length) = True := eq_true (by omega)
          (try rw [show ((8 : Int)).toNat = 8 from rfl] at hx182_0)
          replace hx182_0 := (HB.out.cell (zD w _ hx182_0)).trans hx182_0
          replace p182 := eq_true p182
          replace q182 := eq_true q182
          have p183 : 0 ≤ (9 : Int) := (by omega)
          have q183 : 9 < (l0.length : Int) := of_decide_eq_true (by first | (with_reducible assumption) | assumption)
          obtain ⟨ad183, e183, hx183_0⟩ := Kd.at_int HR0.out 9 p183 q183
          have hw183_0 := hx183_0
          (try rw [show ((9 : Int)).toNat = 9 from rfl] at hw183_0)
          (try rw [show 9 * 1 = 9 from rfl] at hw183_0)
          (try simp only [Nat.reduceMul, Nat.reduceEqDiff, Go.Addr.add, ↓reduceIte] at hw183_0)
          obtain rfl : ad182 = ad183 := (by injection e183)
          (try simp only [show (9 : Int).toNat = 9 from rfl, Nat.reduceMul, Nat.reduceEqDiff, Go.Addr.add, ↓reduceIte] at hx183_0)
          have qi183 : (9 < l0.length) = True := eq_true (by omega)
          (try rw [show ((9 : Int)).toNat = 9 from rfl] at hx183_0)
          replace hx183_0 := (HB.out.cell (zD w _ hx183_0)).trans hx183_0
          replace p183 := eq_true p183
          replace q183 := eq_true q183
          obtain ⟨i047, hi047, _, hsz47, _⟩ := info_parts info5
          obtain ⟨A47, hcut47, hA47, hC47⟩ := print_drop_of (P := Tryd.prog) (Value.int .u8) 0 22 5 .i64 Tryd.underlying22 hi047 hsz47 (some ad182) c0 l0 20 (by omega) (of_decide_eq_true (by first | (with_reducible assumption) | assumption)) HC0.out
          have HR189 := Aside0.mk (Kd.C_of_reads (h1 := fun _ => rfl) (hA47 _ (Kd.reads_of_C HR0.out)))
          have HC189 := Aside0.mk hC47
          clear hA47 hC47 hi047 hsz47
          refine start_ (n := 19) (S := fun w' => w'.cell? ⟨ad182.block, ad182.off + 8, none⟩ = some (.int .u8 (rd l0 8)) ∧ w'.cell? ⟨ad182.block, ad182.off + 9, none⟩ = some (.int .u8 (rd l0 9))) (ds := []) #[false, false, false, false, false, false, false, false, false, false, false, false, false, false, false, false, false, false, false] (by kernel_rfl) rfl rfl ⟨((HB.out.cell (zD w _ hw182_0)).trans hw182_0), ((HB.out.cell (zD w _ hw183_0)).trans hw183_0)⟩ (fun hHeld => ?_); refine with_tabW plenumref1_GetIp.tab5 plenumref1_GetIp.bits5 (fun HT_ HW_ => ?_)
          generalize wc.drew = w46 at BK177 HB HR189 hx182_0 hx183_0 hHeld ⊢
          refine pure_ (i := 0) (N := some 39) (v := ?_) (a' := ?_) #[true, false, false, false, false, false, false, false, false, false, false, false, false, false, false, false, false, false, false] rfl rfl (any_of HT_.out (by kernel_rfl)) (fun _ _ _ h => h) (Or.inl ⟨by rfl, ?_⟩) ?_ ?_
          rotate_left
          ·
           intro w'
           go_simp
           with_reducible rfl
          rotate_left
          ·
           simp only [Act.put, zA, zB, zC, i64_w, i32_w]
           rfl
          refine pure_ (i := 1) (N := some 40) (v := ?_) (a' := ?_) #[true, true, false, false, false, false, false, false, false, false, false, false, false, false, false, false, false, false, false] rfl rfl (any_of HT_.out (by kernel_rfl)) (fun _ _ _ h => h) (Or.inl ⟨by rfl, ?_⟩) ?_ ?_
          rotate_left
          ·
           intro w'
           go_simp
           with_reducible rfl
          rotate_left
          ·
           simp only [Act.put, zA, zB, zC, i64_w, i32_w]
           rfl
          refine pure_ (i := 4) (N := some 43) (v := ?_) (a' := ?_) #[true, true, false, false, true, false, false, false, false, false, false, false, false, false, false, false, false, false, false] rfl rfl (any_of HT_.out (by kernel_rfl)) (fun _ _ _ h => h) (Or.inl ⟨by rfl, ?_⟩) ?_ ?_
          rotate_left
          ·
           intro w'
           go_simp
           with_reducible rfl
          rotate_left
          ·
           simp only [Act.put, zA, zB, zC, i64_w, i32_w]
           rfl
          refine pure_ (i := 5) (N := some 44) (v := ?_) (a' := ?_) #[true, true, false, false, true, true, false, false, false, false, false, false, false, false, false, false, false, false, false] rfl rfl (any_of HT_.out (by kernel_rfl)) (fun _ _ _ h => h) (Or.inl ⟨by rfl, ?_⟩) ?_ ?_
          rotate_left
          ·
           intro w'
           go_simp
           with_reducible rfl
          rotate_left
          ·
           simp only [Act.put, zA, zB, zC, i64_w, i32_w]
           rfl
          refine pure_ (i := 8) (N := some 47) (v := ?_) (a' := ?_) #[true, true, false, false, true, true, false, false, true, false, false, false, false, false, false, false, false, false, false] rfl rfl (any_of HT_.out (by kernel_rfl)) (fun _ _ _ h => h) (Or.inl ⟨by rfl, ?_⟩) ?_ ?_
          rotate_left
          ·
           intro w'
           go_simp
           with_reducible rfl
          rotate_left
          ·
           simp only [Act.put, zA, zB, zC, i64_w, i32_w]
           rfl
          refine pure_ (i := 10) (N := some 49) (v := ?_) (a' := ?_) #[true, true, false, false, true, true, false, false, true, false, true, false, false, false, false, false, false, false, false] rfl rfl (any_of HT_.out (by kernel_rfl)) (fun _ _ _ h => h) (Or.inl ⟨by rfl, ?_⟩) ?_ ?_
          rotate_left
          ·
           intro w'
           go_simp
           with_reducible rfl
          rotate_left
          ·
           simp only [Act.put, zA, zB, zC, i64_w, i32_w]
           rfl
          refine pure_ (i := 13) (N := some 52) (v := ?_) (a' := ?_) #[true, true, false, false, true, true, false, false, true, false, true, false, false, true, false, false, false, false, false] rfl rfl (any_of HT_.out (by kernel_rfl)) (fun _ _ _ h => h) (Or.inl ⟨by rfl, ?_⟩) ?_ ?_
          rotate_left
          ·
           intro w'
           go_simp
           with_reducible rfl
          rotate_left
          ·
           simp only [Act.put, zA, zB, zC, i64_w, i32_w]
           rfl
          refine pure_ (i := 14) (N := some 53) (v := ?_) (a' := ?_) #[true, true, false, false, true, true, false, false, true, false, true, false, false, true, true, false, false, false, false] rfl rfl (any_of HT_.out (by kernel_rfl)) (fun _ _ _ h => h) (Or.inl ⟨by rfl, ?_⟩) ?_ ?_
          rotate_left
          ·
           intro w'
           go_simp
           with_reducible rfl
          rotate_left
          ·
           simp only [Act.put, zA, zB, zC, i64_w, i32_w]
           rfl
          refine take_ (i := 2) (N := some 41) (v := ?_) (a' := ?_) #[true, true, true, false, true, true, false, false, true, false, true, false, false, true, true, false, false, false, false] rfl rfl (take_ofW HT_.out HW_.out (by kernel_rfl)) (fun _ _ _ h => h) (Or.inl ⟨by rfl, ?_⟩) hHeld ?_ ?_
          rotate_left
          ·
           rintro w' ⟨s0, s1⟩
           go_simp
           with_reducible rfl
          rotate_left
          ·
           simp only [Act.put, zA, zB, zC, i64_w, i32_w]
           rfl
          refine pure_ (i := 3) (N := some 42) (v := ?_) (a' := ?_) #[true, true, true, true, true, true, false, false, true, false, true, false, false, true, true, false, false, false, false] rfl rfl (any_of HT_.out (by kernel_rfl)) (fun _ _ _ h => h) (Or.inl ⟨by rfl, ?_⟩) ?_ ?_
          rotate_left
          ·
           intro w'
           go_simp
           with_reducible rfl
          rotate_left
          ·
           simp only [Act.put, zA, zB, zC, i64_w, i32_w]
           rfl
          refine take_ (i := 6) (N := some 45) (v := ?_) (a' := ?_) #[true, true, true, true, true, true, true, false, true, false, true, false, false, true, true, false, false, false, false] rfl rfl (take_ofW HT_.out HW_.out (by kernel_rfl)) (fun _ _ _ h => h) (Or.inl ⟨by rfl, ?_⟩) hHeld ?_ ?_
          rotate_left
          ·
           rintro w' ⟨s0, s1⟩
           go_simp
           with_reducible rfl
          rotate_left
          ·
           simp only [Act.put, zA, zB, zC, i64_w, i32_w]
           rfl
          refine pure_ (i := 7) (N := some 46) (v := ?_) (a' := ?_) #[true, true, true, true, true, true, true, true, true, false, true, false, false, true, true, false, false, false, false] rfl rfl (any_of HT_.out (by kernel_rfl)) (fun _ _ _ h => h) (Or.inl ⟨by rfl, ?_⟩) ?_ ?_
          rotate_left
          ·
           intro w'
           go_simp
           with_reducible rfl
          rotate_left
          ·
           simp only [Act.put, zA, zB, zC, i64_w, i32_w]
           rfl
          refine join_ (σ := Value × Value × Nat) 1 #[true, true, true, true, true, true, true, true, true, true, true, true, true, true, true, true, true, true, false] (fun s_ => [(48, .int .i64 t184), (50, .int .i64 t185), (51, s_.1), (54, s_.2.1), (4, .pointer (some ⟨s_.2.2, 0, none⟩)), (55, .agg #[.int .i64 (wrap64 (rd l0 8)), .int .i64 (wrap64 (rd l0 9)), .int .i64 t184, .int .i64 t185, s_.2.1])]) (fun s_ w' => (w'.cell? ⟨ad182.block, ad182.off + 8, none⟩ = some (.int .u8 (rd l0 8)) ∧ w'.cell? ⟨ad182.block, ad182.off + 9, none⟩ = some (.int .u8 (rd l0 9))) ∧ (Kd.R (Kd.int .u8) 5 w' w.heap.size (fun _ => True) s_.2.1 y190) ∧ (w'.heap[gb177]? = some (.cells #[.int .i64 0, .int .i64 0, .int .i64 0, .int .i64 0, .slice none 0 0] 24 (0, 0))) ∧ (w'.heap[s_.2.2]? = some (.cells #[.int .i64 0, .int .i64 0, .int .i64 0, .int .i64 0, .slice none 0 0] 24 (0, 0))) ∧ (w.heap.size ≤ s_.2.2) ∧ (w.heap.size ≤ s_.2.2) ∧ (gb177 ≠ s_.2.2) ∧ (s_.2.2 ≠ gb177) ∧ (Below w.heap.size w w')) ?_ ?_
          rotate_left
          ·
           intro hJ9_11_12_15_17
           refine join_ (σ := Value × Value) 2 #[true, true, true, true, true, true, true, true, true, true, true, true, true, true, true, true, true, false, false] (fun s_ => [(48, .int .i64 t184), (50, .int .i64 t185), (51, s_.1), (54, s_.2), (55, .agg #[.int .i64 (wrap64 (rd l0 8)), .int .i64 (wrap64 (rd l0 9)), .int .i64 t184, .int .i64 t185, s_.2])]) (fun s_ w' => (w'.cell? ⟨ad182.block, ad182.off + 8, none⟩ = some (.int .u8 (rd l0 8)) ∧ w'.cell? ⟨ad182.block, ad182.off + 9, none⟩ = some (.int .u8 (rd l0 9))) ∧ (Kd.R (Kd.int .u8) 5 w' w.heap.size (fun _ => True) s_.2 y190) ∧ (w'.heap[gb177]? = some (.cells #[.int .i64 0, .int .i64 0, .int .i64 0, .int .i64 0, .slice none 0 0] 24 (0, 0))) ∧ (Below w.heap.size w w')) ?_ ?_
           rotate_left
           ·
            intro hJ9_11_12_15
            refine join_ (σ := Value × Nat) 3 #[true, true, true, true, true, true, true, true, true, true, true, true, true, true, true, false, false, true, false] (fun s_ => [(48, .int .i64 t184), (50, .int .i64 t185), (51, s_.1), (4, .pointer (some ⟨s_.2, 0, none⟩))]) (fun s_ w' => (w'.cell? ⟨ad182.block, ad182.off + 8, none⟩ = some (.int .u8 (rd l0 8)) ∧ w'.cell? ⟨ad182.block, ad182.off + 9, none⟩ = some (.int .u8 (rd l0 9))) ∧ (Kd.R (Kd.int .u8) 5 w' w.heap.size (fun _ => True) s_.1 y186) ∧ (w'.heap[gb177]? = some (.cells #[.int .i64 0, .int .i64 0, .int .i64 0, .int .i64 0, .slice none 0 0] 24 (0, 0))) ∧ (w'.heap[s_.2]? = some (.cells #[.int .i64 0, .int .i64 0, .int .i64 0, .int .i64 0, .slice none 0 0] 24 (0, 0))) ∧ (w.heap.size ≤ s_.2) ∧ (w.heap.size ≤ s_.2) ∧ (gb177 ≠ s_.2) ∧ (s_.2 ≠ gb177) ∧ (Below w.heap.size w w')) ?_ ?_
            rotate_left
            ·
             intro hJ9_11_12_17
             refine join_ (σ := Value) 4 #[true, true, true, true, true, true, true, true, true, true, true, true, true, true, true, false, false, false, false] (fun s_ => [(48, .int .i64 t184), (50, .int .i64 t185), (51, s_)]) (fun s_ w' => (w'.cell? ⟨ad182.block, ad182.off + 8, none⟩ = some (.int .u8 (rd l0 8)) ∧ w'.cell? ⟨ad182.block, ad182.off + 9, none⟩ = some (.int .u8 (rd l0 9))) ∧ (Kd.R (Kd.int .u8) 5 w' w.heap.size (fun _ => True) s_ y186) ∧ (w'.heap[gb177]? = some (.cells #[.int .i64 0, .int .i64 0, .int .i64 0, .int .i64 0, .slice none 0 0] 24 (0, 0))) ∧ (Below w.heap.size w w')) ?_ ?_
             rotate_left
             ·
              intro hJ9_11_12
              refine join_ (σ := Nat) 4 #[true, true, true, true, true, true, true, true, true, true, true, true, false, true, true, false, false, true, false] (fun s_ => [(48, .int .i64 t184), (50, .int .i64 t185), (4, .pointer (some ⟨s_, 0, none⟩))]) (fun s_ w' => (w'.cell? ⟨ad182.block, ad182.off + 8, none⟩ = some (.int .u8 (rd l0 8)) ∧ w'.cell? ⟨ad182.block, ad182.off + 9, none⟩ = some (.int .u8 (rd l0 9))) ∧ (w'.heap[gb177]? = some (.cells #[.int .i64 0, .int .i64 0, .int .i64 0, .int .i64 0, .slice none 0 0] 24 (0, 0))) ∧ (w'.heap[s_]? = some (.cells #[.int .i64 0, .int .i64 0, .int .i64 0, .int .i64 0, .slice none 0 0] 24 (0, 0))) ∧ (w.heap.size ≤ s_) ∧ (w.heap.size ≤ s_) ∧ (gb177 ≠ s_) ∧ (s_ ≠ gb177) ∧ (Below w.heap.size w w')) ?_ ?_
              rotate_left
              ·
               intro hJ9_11_17
               refine join_ (σ := Value × Nat) 4 #[true, true, true, true, true, true, true, true, true, true, true, false, true, true, true, false, false, true, false] (fun s_ => [(48, .int .i64 t184), (51, s_.1), (4, .pointer (some ⟨s_.2, 0, none⟩))]) (fun s_ w' => (w'.cell? ⟨ad182.block, ad182.off + 8, none⟩ = some (.int .u8 (rd l0 8)) ∧ w'.cell? ⟨ad182.block, ad182.off + 9, none⟩ = some (.int .u8 (rd l0 9))) ∧ (Kd.R (Kd.int .u8) 5 w' w.heap.size (fun _ => True) s_.1 y186) ∧ (w'.heap[gb177]? = some (.cells #[.int .i64 0, .int .i64 0, .int .i64 0, .int .i64 0, .slice none 0 0] 24 (0, 0))) ∧ (w'.heap[s_.2]? = some (.cells #[.int .i64 0, .int .i64 0, .int .i64 0, .int .i64 0, .slice none 0 0] 24 (0, 0))) ∧ (w.heap.size ≤ s_.2) ∧ (w.heap.size ≤ s_.2) ∧ (gb177 ≠ s_.2) ∧ (s_.2 ≠ gb177) ∧ (Below w.heap.size w w')) ?_ ?_
               rotate_left
               ·
                intro hJ9_12_17
                refine join_ (σ := Unit) 5 #[true, true, true, true, true, true, true, true, true, true, true, true, false, true, true, false, false, false, false] (fun s_ => [(48, .int .i64 t184), (50, .int .i64 t185)]) (fun s_ w' => (w'.cell? ⟨ad182.block, ad182.off + 8, none⟩ = some (.int .u8 (rd l0 8)) ∧ w'.cell? ⟨ad182.block, ad182.off + 9, none⟩ = some (.int .u8 (rd l0 9))) ∧ (w'.heap[gb177]? = some (.cells #[.int .i64 0, .int .i64 0, .int .i64 0, .int .i64 0, .slice none 0 0] 24 (0, 0))) ∧ (Below w.heap.size w w')) ?_ ?_
                rotate_left
                ·
                 intro hJ9_11
                 refine join_ (σ := Value) 5 #[true, true, true, true, true, true, true, true, true, true, true, false, true, true, true, false, false, false, false] (fun s_ => [(48, .int .i64 t184), (51, s_)]) (fun s_ w' => (w'.cell? ⟨ad182.block, ad182.off + 8, none⟩ = some (.int .u8 (rd l0 8)) ∧ w'.cell? ⟨ad182.block, ad182.off + 9, none⟩ = some (.int .u8 (rd l0 9))) ∧ (Kd.R (Kd.int .u8) 5 w' w.heap.size (fun _ => True) s_ y186) ∧ (w'.heap[gb177]? = some (.cells #[.int .i64 0, .int .i64 0, .int .i64 0, .int .i64 0, .slice none 0 0] 24 (0, 0))) ∧ (Below w.heap.size w w')) ?_ ?_
                 rotate_left
                 ·
                  intro hJ9_12
                  refine join_ (σ := Nat) 5 #[true, true, true, true, true, true, true, true, true, true, true, false, false, true, true, false, false, true, false] (fun s_ => [(48, .int .i64 t184), (4, .pointer (some ⟨s_, 0, none⟩))]) (fun s_ w' => (w'.cell? ⟨ad182.block, ad182.off + 8, none⟩ = some (.int .u8 (rd l0 8)) ∧ w'.cell? ⟨ad182.block, ad182.off + 9, none⟩ = some (.int .u8 (rd l0 9))) ∧ (w'.heap[gb177]? = some (.cells #[.int .i64 0, .int .i64 0, .int .i64 0, .int .i64 0, .slice none 0 0] 24 (0, 0))) ∧ (w'.heap[s_]? = some (.cells #[.int .i64 0, .int .i64 0, .int .i64 0, .int .i64 0, .slice none 0 0] 24 (0, 0))) ∧ (w.heap.size ≤ s_) ∧ (w.heap.size ≤ s_) ∧ (gb177 ≠ s_) ∧ (s_ ≠ gb177) ∧ (Below w.heap.size w w')) ?_ ?_
                  rotate_left
                  ·
                   intro hJ9_17
                   refine join_ (σ := Value × Nat) 5 #[true, true, true, true, true, true, true, true, true, false, true, false, true, true, true, false, false, true, false] (fun s_ => [(51, s_.1), (4, .pointer (some ⟨s_.2, 0, none⟩))]) (fun s_ w' => (w'.cell? ⟨ad182.block, ad182.off + 8, none⟩ = some (.int .u8 (rd l0 8)) ∧ w'.cell? ⟨ad182.block, ad182.off + 9, none⟩ = some (.int .u8 (rd l0 9))) ∧ (Kd.R (Kd.int .u8) 5 w' w.heap.size (fun _ => True) s_.1 y186) ∧ (w'.heap[gb177]? = some (.cells #[.int .i64 0, .int .i64 0, .int .i64 0, .int .i64 0, .slice none 0 0] 24 (0, 0))) ∧ (w'.heap[s_.2]? = some (.cells #[.int .i64 0, .int .i64 0, .int .i64 0, .int .i64 0, .slice none 0 0] 24 (0, 0))) ∧ (w.heap.size ≤ s_.2) ∧ (w.heap.size ≤ s_.2) ∧ (gb177 ≠ s_.2) ∧ (s_.2 ≠ gb177) ∧ (Below w.heap.size w w')) ?_ ?_
                   rotate_left
                   ·
                    intro hJ12_17
                    refine join_ (σ := Unit) 6 #[true, true, true, true, true, true, true, true, true, true, true, false, false, true, true, false, false, false, false] (fun s_ => [(48, .int .i64 t184)]) (fun s_ w' => (w'.cell? ⟨ad182.block, ad182.off + 8, none⟩ = some (.int .u8 (rd l0 8)) ∧ w'.cell? ⟨ad182.block, ad182.off + 9, none⟩ = some (.int .u8 (rd l0 9))) ∧ (w'.heap[gb177]? = some (.cells #[.int .i64 0, .int .i64 0, .int .i64 0, .int .i64 0, .slice none 0 0] 24 (0, 0))) ∧ (Below w.heap.size w w')) ?_ ?_
                    rotate_left
                    ·
                     intro hJ9
                     refine join_ (σ := Value) 6 #[true, true, true, true, true, true, true, true, true, false, true, false, true, true, true, false, false, false, false] (fun s_ => [(51, s_)]) (fun s_ w' => (w'.cell? ⟨ad182.block, ad182.off + 8, none⟩ = some (.int .u8 (rd l0 8)) ∧ w'.cell? ⟨ad182.block, ad182.off + 9, none⟩ = some (.int .u8 (rd l0 9))) ∧ (Kd.R (Kd.int .u8) 5 w' w.heap.size (fun _ => True) s_ y186) ∧ (w'.heap[gb177]? = some (.cells #[.int .i64 0, .int .i64 0, .int .i64 0, .int .i64 0, .slice none 0 0] 24 (0, 0))) ∧ (Below w.heap.size w w')) ?_ ?_
                     rotate_left
                     ·
                      intro hJ12
                      refine join_ (σ := Nat) 6 #[true, true, true, true, true, true, true, true, true, false, true, false, false, true, true, false, false, true, false] (fun s_ => [(4, .pointer (some ⟨s_, 0, none⟩))]) (fun s_ w' => (w'.cell? ⟨ad182.block, ad182.off + 8, none⟩ = some (.int .u8 (rd l0 8)) ∧ w'.cell? ⟨ad182.block, ad182.off + 9, none⟩ = some (.int .u8 (rd l0 9))) ∧ (w'.heap[gb177]? = some (.cells #[.int .i64 0, .int .i64 0, .int .i64 0, .int .i64 0, .slice none 0 0] 24 (0, 0))) ∧ (w'.heap[s_]? = some (.cells #[.int .i64 0, .int .i64 0, .int .i64 0, .int .i64 0, .slice none 0 0] 24 (0, 0))) ∧ (w.heap.size ≤ s_) ∧ (w.heap.size ≤ s_) ∧ (gb177 ≠ s_) ∧ (s_ ≠ gb177) ∧ (Below w.heap.size w w')) ?_ ?_
                      rotate_left
                      ·
                       intro hJ17
                       refine three_ (i := 9) (j := 12) (k := 17) (Ni := some 48) (Nj := some 51) (Nk := some 4) #[true, true, true, true, true, true, true, true, true, true, true, false, false, true, true, false, false, false, false] #[true, true, true, true, true, true, true, true, true, false, true, false, true, true, true, false, false, false, false] #[true, true, true, true, true, true, true, true, true, false, true, false, false, true, true, false, false, true, false] rfl rfl rfl rfl rfl rfl (three_of HT_.out (by kernel_rfl)) (by decide) (by decide) (by decide) (fun K hK => ?_) (fun K hK => ?_) (fun K hK => ?_)
                       ·
                        skip
                        refine goes_ Tryd.func23 (by kernel_rfl) rfl #[.slice (some ad182) l0.length c0, .int .i64 12] (by rfl) rfl rfl (by (try simp only [List.map_toArray, List.map_cons, List.map_nil]); first | done | rfl | (simp only [List.length_drop, List.length_take]; rfl)) ?_
                        with_reducible refine (plenumref1_Four.calls _ _ l0 12 t184 _ ?side1 ?side2 A19.out).mono ?_
                        (case side1 => repeat (first | exact (Kd.C_below HR0.out HB.out) | (with_reducible refine Kd.C_alloc ?_ _) | (with_reducible refine Kd.C_drewN ?_ _) | (with_reducible refine Kd.C_drew ?_)))
                        (case side2 => exact HC0.out)
                        rintro e w' ⟨rfl, ⟨nd, rfl⟩⟩
                        refine ⟨_, rfl, ?_⟩
                        refine hK.out _ _ ⟨((HB.out.cell (zD w _ hw182_0)).trans hw182_0), ((HB.out.cell (zD w _ hw183_0)).trans hw183_0)⟩ (fun hHeld => ?_)
                        clear hK K
                        refine norm_ (a' := ?_) ?_ ?_
                        rotate_left
                        ·
                         show Act.put _ (some 48) _ = _
                         simp only [Act.put, zA, zB, zC, i64_w, i32_w]
                         rfl
                        exact norm_ (by first | (simp only [putAll, Act.put, zA, zB, zC]; done) | (simp only [putAll, Act.put, zA, zB, zC]; rfl)) (hJ9 () _ ⟨hHeld, (by (with_reducible repeat (first | refine zI ?_ _ | refine zJ ?_ | refine zK ?_ _)); exact BK177.out), (by repeat (first | (with_reducible first | exact HB.out | apply zG | apply zE | apply zF | refine zH ?_ GE177.out) | exact HB.out))⟩)
                       ·
                        skip
                        refine Kd.R_lit_step (Kd.int .u8) _ 5 ?hg (N := 51) ?hd (xs := ([] : List Int)) (inner := []) (ok := fun _ => True) (okp := fun _ => True) ?hr ?hp (fun _ hk => hk) trivial (Below.refl _ _) (Nat.le_refl _) (by simp) ?_; (case hd => rfl); (case hg => rfl); (case hr => first | (go_simp; done) | (go_simp; rfl)); (case hp => exact (Reps.none _ _))
                        intro v187 w48 ho49 hb hg_ hnew_
                        clear hg_ hnew_
                        (first | rw [← Ny186.out] at ho49 | (simp only [Int.reduceToNat] at ho49; rw [← Ny186.out] at ho49))
                        have n0_ := Aside0.mk (Kd.R_lower ho49 (below_size (by repeat (first | (with_reducible first | exact HB.out | apply zG | apply zE | apply zF | refine zH ?_ GE177.out) | exact HB.out))))
                        have n1_ := Aside0.mk (blk_below (g := gb177) (o := .cells #[.int .i64 0, .int .i64 0, .int .i64 0, .int .i64 0, .slice none 0 0] 24 (0, 0)) (by (with_reducible repeat (first | refine zI ?_ _ | refine zJ ?_ | refine zK ?_ _)); exact BK177.out) hb)
                        have n2_ := Aside0.mk (below_step (by repeat (first | (with_reducible first | exact HB.out | apply zG | apply zE | apply zF | refine zH ?_ GE177.out) | exact HB.out)) hb)
                        clear BK177
                        clear HB
                        have HO188 := n0_
                        have BK177 := n1_
                        have HB := n2_
                        clear n0_ n1_ n2_
                        clear hb ho49
                        refine hK.out _ _ ⟨((HB.out.cell (zD w _ hw182_0)).trans hw182_0), ((HB.out.cell (zD w _ hw183_0)).trans hw183_0)⟩ (fun hHeld => ?_)
                        clear hK K
                        refine norm_ (a' := ?_) ?_ ?_
                        rotate_left
                        ·
                         show Act.put _ (some 51) _ = _
                         simp only [Act.put, zA, zB, zC, i64_w, i32_w]
                         rfl
                        exact norm_ (by first | (simp only [putAll, Act.put, zA, zB, zC]; done) | (simp only [putAll, Act.put, zA, zB, zC]; rfl)) (hJ12 (v187) _ ⟨hHeld, (by (with_reducible repeat (first | apply Kd.R_alloc | apply Kd.R_drewN | apply Kd.R_drew)); exact HO188.out), (by (with_reducible repeat (first | refine zI ?_ _ | refine zJ ?_ | refine zK ?_ _)); exact BK177.out), (by repeat (first | (with_reducible first | exact HB.out | apply zG | apply zE | apply zF | refine zH ?_ GE177.out) | exact HB.out))⟩)
                       ·
                        skip
                        refine box_step ?hg (N := 4) ?hd (cs := #[.int .i64 0, .int .i64 0, .int .i64 0, .int .i64 0, .slice none 0 0]) (t := 24) ?hr ?_; (case hd => rfl); (case hg => rfl); (case hr => first | (go_simp; done) | (go_simp; rfl))
                        intro gb193 hg w48 hbox hb
                        have n0_ := Aside0.mk (blk_below (g := gb177) (o := .cells #[.int .i64 0, .int .i64 0, .int .i64 0, .int .i64 0, .slice none 0 0] 24 (0, 0)) (by (with_reducible repeat (first | refine zI ?_ _ | refine zJ ?_ | refine zK ?_ _)); exact BK177.out) hb)
                        have n1_ := Aside0.mk (below_step (by repeat (first | (with_reducible first | exact HB.out | apply zG | apply zE | apply zF | refine zH ?_ GE177.out) | exact HB.out)) hb)
                        have n2_ := Aside0.mk (hbox)
                        have n3_ := Aside0.mk ((by rw [hg]; exact (below_size (by repeat (first | (with_reducible first | exact HB.out | apply zG | apply zE | apply zF | refine zH ?_ GE177.out) | exact HB.out))) : w.heap.size ≤ gb193))
                        have n4_ := Aside0.mk ((by rw [hg]; exact (below_size (by repeat (first | (with_reducible first | exact HB.out | apply zG | apply zE | apply zF | refine zH ?_ GE177.out) | exact HB.out))) : w.heap.size ≤ gb193))
                        have n5_ := Aside0.mk ((by rw [hg]; exact zM (blk_lt (g := gb177) (o := .cells #[.int .i64 0, .int .i64 0, .int .i64 0, .int .i64 0, .slice none 0 0] 24 (0, 0)) (by (with_reducible repeat (first | refine zI ?_ _ | refine zJ ?_ | refine zK ?_ _)); exact BK177.out)) : gb177 ≠ gb193))
                        have n6_ := Aside0.mk ((by rw [hg]; exact Nat.ne_of_gt (blk_lt (g := gb177) (o := .cells #[.int .i64 0, .int .i64 0, .int .i64 0, .int .i64 0, .slice none 0 0] 24 (0, 0)) (by (with_reducible repeat (first | refine zI ?_ _ | refine zJ ?_ | refine zK ?_ _)); exact BK177.out)) : gb193 ≠ gb177))
                        clear BK177
                        clear HB
                        have BK177 := n0_
                        have HB := n1_
                        have BK193 := n2_
                        have GW193 := n3_
                        have GE193 := n4_
                        have NB177_193 := n5_
                        have NB193_177 := n6_
                        clear n0_ n1_ n2_ n3_ n4_ n5_ n6_
                        clear hb hbox hg
                        refine hK.out _ _ ⟨((HB.out.cell (zD w _ hw182_0)).trans hw182_0), ((HB.out.cell (zD w _ hw183_0)).trans hw183_0)⟩ (fun hHeld => ?_)
                        clear hK K
                        refine norm_ (a' := ?_) ?_ ?_
                        rotate_left
                        ·
                         show Act.put _ (some 4) _ = _
                         simp only [Act.put, zA, zB, zC, i64_w, i32_w]
                         rfl
                        exact norm_ (by first | (simp only [putAll, Act.put, zA, zB, zC]; done) | (simp only [putAll, Act.put, zA, zB, zC]; rfl)) (hJ17 (gb193) _ ⟨hHeld, (by (with_reducible repeat (first | refine zI ?_ _ | refine zJ ?_ | refine zK ?_ _)); exact BK177.out), (by (with_reducible repeat (first | refine zI ?_ _ | refine zJ ?_ | refine zK ?_ _)); exact BK193.out), GW193.out, GE193.out, NB177_193.out, NB193_177.out, (by repeat (first | (with_reducible first | exact HB.out | apply zG | apply zE | apply zF | refine zH ?_ GE177.out | refine zH ?_ GE193.out) | exact HB.out))⟩)
                      ·
                       skip
                       rintro gb193 w49 ⟨hS_, h0_, h1_, h2_, h3_, h4_, h5_, h6_⟩
                       have n0_ : Aside0 (w49.heap[gb177]? = some (.cells #[.int .i64 0, .int .i64 0, .int .i64 0, .int .i64 0, .slice none 0 0] 24 (0, 0))) := ⟨h0_⟩
                       have n1_ : Aside0 (w49.heap[gb193]? = some (.cells #[.int .i64 0, .int .i64 0, .int .i64 0, .int .i64 0, .slice none 0 0] 24 (0, 0))) := ⟨h1_⟩
                       have n2_ : Aside0 (w.heap.size ≤ gb193) := ⟨h2_⟩
                       have n3_ : Aside0 (w.heap.size ≤ gb193) := ⟨h3_⟩
                       have n4_ : Aside0 (gb177 ≠ gb193) := ⟨h4_⟩
                       have n5_ : Aside0 (gb193 ≠ gb177) := ⟨h5_⟩
                       have n6_ : Aside0 (Below w.heap.size w w49) := ⟨h6_⟩
                       clear BK177
                       clear HB
                       clear h0_ h1_ h2_ h3_ h4_ h5_ h6_
                       have BK177 := n0_
                       have BK193 := n1_
                       have GW193 := n2_
                       have GE193 := n3_
                       have NB177_193 := n4_
                       have NB193_177 := n5_
                       have HB := n6_
                       clear n0_ n1_ n2_ n3_ n4_ n5_ n6_
                       have hHeld : w49.cell? ⟨ad182.block, ad182.off + 8, none⟩ = some (.int .u8 (rd l0 8)) ∧ w49.cell? ⟨ad182.block, ad182.off + 9, none⟩ = some (.int .u8 (rd l0 9)) := hS_
                       refine norm_ (a' := ?_) ?_ ?_
                       rotate_left
                       ·
                        simp only [putAll, Act.put, zA, zB, zC]
                        rfl
                       refine two_ (i := 9) (j := 12) (Ni := some 48) (Nj := some 51) #[true, true, true, true, true, true, true, true, true, true, true, false, false, true, true, false, false, true, false] #[true, true, true, true, true, true, true, true, true, false, true, false, true, true, true, false, false, true, false] rfl rfl rfl rfl (two_of HT_.out (by kernel_rfl)) (by decide) (by decide) (fun K hK => ?_) (fun K hK => ?_)
                       ·
                        skip
                        refine goes_ Tryd.func23 (by kernel_rfl) rfl #[.slice (some ad182) l0.length c0, .int .i64 12] (by rfl) rfl rfl (by (try simp only [List.map_toArray, List.map_cons, List.map_nil]); first | done | rfl | (simp only [List.length_drop, List.length_take]; rfl)) ?_
                        with_reducible refine (plenumref1_Four.calls _ _ l0 12 t184 _ ?side1 ?side2 A19.out).mono ?_
                        (case side1 => repeat (first | exact (Kd.C_below HR0.out HB.out) | (with_reducible refine Kd.C_alloc ?_ _) | (with_reducible refine Kd.C_drewN ?_ _) | (with_reducible refine Kd.C_drew ?_)))
                        (case side2 => exact HC0.out)
                        rintro e w' ⟨rfl, ⟨nd, rfl⟩⟩
                        refine ⟨_, rfl, ?_⟩
                        refine hK.out _ _ ⟨((HB.out.cell (zD w _ hw182_0)).trans hw182_0), ((HB.out.cell (zD w _ hw183_0)).trans hw183_0)⟩ (fun hHeld => ?_)
                        clear hK K
                        refine norm_ (a' := ?_) ?_ ?_
                        rotate_left
                        ·
                         show Act.put _ (some 48) _ = _
                         simp only [Act.put, zA, zB, zC, i64_w, i32_w]
                         rfl
                        exact norm_ (by first | (simp only [putAll, Act.put, zA, zB, zC]; done) | (simp only [putAll, Act.put, zA, zB, zC]; rfl)) (hJ9_17 (gb193) _ ⟨hHeld, (by (with_reducible repeat (first | refine zI ?_ _ | refine zJ ?_ | refine zK ?_ _)); exact BK177.out), (by (with_reducible repeat (first | refine zI ?_ _ | refine zJ ?_ | refine zK ?_ _)); exact BK193.out), GW193.out, GE193.out, NB177_193.out, NB193_177.out, (by repeat (first | (with_reducible first | exact HB.out | apply zG | apply zE | apply zF | refine zH ?_ GE177.out | refine zH ?_ GE193.out) | exact HB.out))⟩)
                       ·
                        skip
                        refine Kd.R_lit_step (Kd.int .u8) _ 5 ?hg (N := 51) ?hd (xs := ([] : List Int)) (inner := []) (ok := fun _ => True) (okp := fun _ => True) ?hr ?hp (fun _ hk => hk) trivial (Below.refl _ _) (Nat.le_refl _) (by simp) ?_; (case hd => rfl); (case hg => rfl); (case hr => first | (go_simp; done) | (go_simp; rfl)); (case hp => exact (Reps.none _ _))
                        intro v187 w50 ho51 hb hg_ hnew_
                        clear hg_ hnew_
                        (first | rw [← Ny186.out] at ho51 | (simp only [Int.reduceToNat] at ho51; rw [← Ny186.out] at ho51))
                        have n0_ := Aside0.mk (Kd.R_lower ho51 (below_size (by repeat (first | (with_reducible first | exact HB.out | apply zG | apply zE | apply zF | refine zH ?_ GE177.out | refine zH ?_ GE193.out) | exact HB.out))))
                        have n1_ := Aside0.mk (blk_below (g := gb177) (o := .cells #[.int .i64 0, .int .i64 0, .int .i64 0, .int .i64 0, .slice none 0 0] 24 (0, 0)) (by (with_reducible repeat (first | refine zI ?_ _ | refine zJ ?_ | refine zK ?_ _)); exact BK177.out) hb)
                        have n2_ := Aside0.mk (blk_below (g := gb193) (o := .cells #[.int .i64 0, .int .i64 0, .int .i64 0, .int .i64 0, .slice none 0 0] 24 (0, 0)) (by (with_reducible repeat (first | refine zI ?_ _ | refine zJ ?_ | refine zK ?_ _)); exact BK193.out) hb)
                        have n3_ := Aside0.mk (below_step (by repeat (first | (with_reducible first | exact HB.out | apply zG | apply zE | apply zF | refine zH ?_ GE177.out | refine zH ?_ GE193.out) | exact HB.out)) hb)
                        clear BK177
                        clear BK193
                        clear HB
                        have HO188 := n0_
                        have BK177 := n1_
                        have BK193 := n2_
                        have HB := n3_
                        clear n0_ n1_ n2_ n3_
                        clear hb ho51
                        refine hK.out _ _ ⟨((HB.out.cell (zD w _ hw182_0)).trans hw182_0), ((HB.out.cell (zD w _ hw183_0)).trans hw183_0)⟩ (fun hHeld => ?_)
                        clear hK K
                        refine norm_ (a' := ?_) ?_ ?_
                        rotate_left
                        ·
                         show Act.put _ (some 51) _ = _
                         simp only [Act.put, zA, zB, zC, i64_w, i32_w]
                         rfl
                        exact norm_ (by first | (simp only [putAll, Act.put, zA, zB, zC]; done) | (simp only [putAll, Act.put, zA, zB, zC]; rfl)) (hJ12_17 (v187, gb193) _ ⟨hHeld, (by (with_reducible repeat (first | apply Kd.R_alloc | apply Kd.R_drewN | apply Kd.R_drew)); exact HO188.out), (by (with_reducible repeat (first | refine zI ?_ _ | refine zJ ?_ | refine zK ?_ _)); exact BK177.out), (by (with_reducible repeat (first | refine zI ?_ _ | refine zJ ?_ | refine zK ?_ _)); exact BK193.out), GW193.out, GE193.out, NB177_193.out, NB193_177.out, (by repeat (first | (with_reducible first | exact HB.out | apply zG | apply zE | apply zF | refine zH ?_ GE177.out | refine zH ?_ GE193.out) | exact HB.out))⟩)
                     ·
                      skip
                      rintro v187 w50 ⟨hS_, h0_, h1_, h2_⟩
                      have n0_ : Aside0 (Kd.R (Kd.int .u8) 5 w50 w.heap.size (fun _ => True) v187 y186) := ⟨h0_⟩
                      have n1_ : Aside0 (w50.heap[gb177]? = some (.cells #[.int .i64 0, .int .i64 0, .int .i64 0, .int .i64 0, .slice none 0 0] 24 (0, 0))) := ⟨h1_⟩
                      have n2_ : Aside0 (Below w.heap.size w w50) := ⟨h2_⟩
                      clear BK177
                      clear HB
                      clear h0_ h1_ h2_
                      have HO188 := n0_
                      have BK177 := n1_
                      have HB := n2_
                      clear n0_ n1_ n2_
                      have hHeld : w50.cell? ⟨ad182.block, ad182.off + 8, none⟩ = some (.int .u8 (rd l0 8)) ∧ w50.cell? ⟨ad182.block, ad182.off + 9, none⟩ = some (.int .u8 (rd l0 9)) := hS_
                      refine norm_ (a' := ?_) ?_ ?_
                      rotate_left
                      ·
                       simp only [putAll, Act.put, zA, zB, zC]
                       rfl
                      refine two_ (i := 9) (j := 17) (Ni := some 48) (Nj := some 4) #[true, true, true, true, true, true, true, true, true, true, true, false, true, true, true, false, false, false, false] #[true, true, true, true, true, true, true, true, true, false, true, false, true, true, true, false, false, true, false] rfl rfl rfl rfl (two_of HT_.out (by kernel_rfl)) (by decide) (by decide) (fun K hK => ?_) (fun K hK => ?_)
                      ·
                       skip
                       refine goes_ Tryd.func23 (by kernel_rfl) rfl #[.slice (some ad182) l0.length c0, .int .i64 12] (by rfl) rfl rfl (by (try simp only [List.map_toArray, List.map_cons, List.map_nil]); first | done | rfl | (simp only [List.length_drop, List.length_take]; rfl)) ?_
                       with_reducible refine (plenumref1_Four.calls _ _ l0 12 t184 _ ?side1 ?side2 A19.out).mono ?_
                       (case side1 => repeat (first | exact (Kd.C_below HR0.out HB.out) | (with_reducible refine Kd.C_alloc ?_ _) | (with_reducible refine Kd.C_drewN ?_ _) | (with_reducible refine Kd.C_drew ?_)))
                       (case side2 => exact HC0.out)
                       rintro e w' ⟨rfl, ⟨nd, rfl⟩⟩
                       refine ⟨_, rfl, ?_⟩
                       refine hK.out _ _ ⟨((HB.out.cell (zD w _ hw182_0)).trans hw182_0), ((HB.out.cell (zD w _ hw183_0)).trans hw183_0)⟩ (fun hHeld => ?_)
                       clear hK K
                       refine norm_ (a' := ?_) ?_ ?_
                       rotate_left
                       ·
                        show Act.put _ (some 48) _ = _
                        simp only [Act.put, zA, zB, zC, i64_w, i32_w]
                        rfl
                       exact norm_ (by first | (simp only [putAll, Act.put, zA, zB, zC]; done) | (simp only [putAll, Act.put, zA, zB, zC]; rfl)) (hJ9_12 (v187) _ ⟨hHeld, (by (with_reducible repeat (first | apply Kd.R_alloc | apply Kd.R_drewN | apply Kd.R_drew)); exact HO188.out), (by (with_reducible repeat (first | refine zI ?_ _ | refine zJ ?_ | refine zK ?_ _)); exact BK177.out), (by repeat (first | (with_reducible first | exact HB.out | apply zG | apply zE | apply zF | refine zH ?_ GE177.out) | exact HB.out))⟩)
                      ·
                       skip
                       refine box_step ?hg (N := 4) ?hd (cs := #[.int .i64 0, .int .i64 0, .int .i64 0, .int .i64 0, .slice none 0 0]) (t := 24) ?hr ?_; (case hd => rfl); (case hg => rfl); (case hr => first | (go_simp; done) | (go_simp; rfl))
                       intro gb193 hg w51 hbox hb
                       have n0_ := Aside0.mk (Kd.R_below (by (with_reducible repeat (first | apply Kd.R_alloc | apply Kd.R_drewN | apply Kd.R_drew)); exact HO188.out) hb)
                       have n1_ := Aside0.mk (blk_below (g := gb177) (o := .cells #[.int .i64 0, .int .i64 0, .int .i64 0, .int .i64 0, .slice none 0 0] 24 (0, 0)) (by (with_reducible repeat (first | refine zI ?_ _ | refine zJ ?_ | refine zK ?_ _)); exact BK177.out) hb)
                       have n2_ := Aside0.mk (below_step (by repeat (first | (with_reducible first | exact HB.out | apply zG | apply zE | apply zF | refine zH ?_ GE177.out) | exact HB.out)) hb)
                       have n3_ := Aside0.mk (hbox)
                       have n4_ := Aside0.mk ((by rw [hg]; exact (below_size (by repeat (first | (with_reducible first | exact HB.out | apply zG | apply zE | apply zF | refine zH ?_ GE177.out) | exact HB.out))) : w.heap.size ≤ gb193))
                       have n5_ := Aside0.mk ((by rw [hg]; exact (below_size (by repeat (first | (with_reducible first | exact HB.out | apply zG | apply zE | apply zF | refine zH ?_ GE177.out) | exact HB.out))) : w.heap.size ≤ gb193))
                       have n6_ := Aside0.mk ((by rw [hg]; exact zM (blk_lt (g := gb177) (o := .cells #[.int .i64 0, .int .i64 0, .int .i64 0, .int .i64 0, .slice none 0 0] 24 (0, 0)) (by (with_reducible repeat (first | refine zI ?_ _ | refine zJ ?_ | refine zK ?_ _)); exact BK177.out)) : gb177 ≠ gb193))
                       have n7_ := Aside0.mk ((by rw [hg]; exact Nat.ne_of_gt (blk_lt (g := gb177) (o := .cells #[.int .i64 0, .int .i64 0, .int .i64 0, .int .i64 0, .slice none 0 0] 24 (0, 0)) (by (with_reducible repeat (first | refine zI ?_ _ | refine zJ ?_ | refine zK ?_ _)); exact BK177.out)) : gb193 ≠ gb177))
                       clear HO188
                       clear BK177
                       clear HB
                       have HO188 := n0_
                       have BK177 := n1_
                       have HB := n2_
                       have BK193 := n3_
                       have GW193 := n4_
                       have GE193 := n5_
                       have NB177_193 := n6_
                       have NB193_177 := n7_
                       clear n0_ n1_ n2_ n3_ n4_ n5_ n6_ n7_
                       clear hb hbox hg
                       refine hK.out _ _ ⟨((HB.out.cell (zD w _ hw182_0)).trans hw182_0), ((HB.out.cell (zD w _ hw183_0)).trans hw183_0)⟩ (fun hHeld => ?_)
                       clear hK K
                       refine norm_ (a' := ?_) ?_ ?_
                       rotate_left
                       ·
                        show Act.put _ (some 4) _ = _
                        simp only [Act.put, zA, zB, zC, i64_w, i32_w]
                        rfl
                       exact norm_ (by first | (simp only [putAll, Act.put, zA, zB, zC]; done) | (simp only [putAll, Act.put, zA, zB, zC]; rfl)) (hJ12_17 (v187, gb193) _ ⟨hHeld, (by (with_reducible repeat (first | apply Kd.R_alloc | apply Kd.R_drewN | apply Kd.R_drew)); exact HO188.out), (by (with_reducible repeat (first | refine zI ?_ _ | refine zJ ?_ | refine zK ?_ _)); exact BK177.out), (by (with_reducible repeat (first | refine zI ?_ _ | refine zJ ?_ | refine zK ?_ _)); exact BK193.out), GW193.out, GE193.out, NB177_193.out, NB193_177.out, (by repeat (first | (with_reducible first | exact HB.out | apply zG | apply zE | apply zF | refine zH ?_ GE177.out | refine zH ?_ GE193.out) | exact HB.out))⟩)
                    ·
                     skip
                     rintro _ w48 ⟨hS_, h0_, h1_⟩
                     have n0_ : Aside0 (w48.heap[gb177]? = some (.cells #[.int .i64 0, .int .i64 0, .int .i64 0, .int .i64 0, .slice none 0 0] 24 (0, 0))) := ⟨h0_⟩
                     have n1_ : Aside0 (Below w.heap.size w w48) := ⟨h1_⟩
                     clear BK177
                     clear HB
                     clear h0_ h1_
                     have BK177 := n0_
                     have HB := n1_
                     clear n0_ n1_
                     have hHeld : w48.cell? ⟨ad182.block, ad182.off + 8, none⟩ = some (.int .u8 (rd l0 8)) ∧ w48.cell? ⟨ad182.block, ad182.off + 9, none⟩ = some (.int .u8 (rd l0 9)) := hS_
                     refine norm_ (a' := ?_) ?_ ?_
                     rotate_left
                     ·
                      simp only [putAll, Act.put, zA, zB, zC]
                      rfl
                     refine three_ (i := 11) (j := 12) (k := 17) (Ni := some 50) (Nj := some 51) (Nk := some 4) #[true, true, true, true, true, true, true, true, true, true, true, true, false, true, true, false, false, false, false] #[true, true, true, true, true, true, true, true, true, true, true, false, true, true, true, false, false, false, false] #[true, true, true, true, true, true, true, true, true, true, true, false, false, true, true, false, false, true, false] rfl rfl rfl rfl rfl rfl (three_of HT_.out (by kernel_rfl)) (by decide) (by decide) (by decide) (fun K hK => ?_) (fun K hK => ?_) (fun K hK => ?_)
                     ·
                      skip
                      refine goes_ Tryd.func23 (by kernel_rfl) rfl #[.slice (some ad182) l0.length c0, .int .i64 16] (by rfl) rfl rfl (by (try simp only [List.map_toArray, List.map_cons, List.map_nil]); first | done | rfl | (simp only [List.length_drop, List.length_take]; rfl)) ?_
                      with_reducible refine (plenumref1_Four.calls _ _ l0 16 t185 _ ?side1 ?side2 A20.out).mono ?_
                      (case side1 => repeat (first | exact (Kd.C_below HR0.out HB.out) | (with_reducible refine Kd.C_alloc ?_ _) | (with_reducible refine Kd.C_drewN ?_ _) | (with_reducible refine Kd.C_drew ?_)))
                      (case side2 => exact HC0.out)
                      rintro e w' ⟨rfl, ⟨nd, rfl⟩⟩
                      refine ⟨_, rfl, ?_⟩
                      refine hK.out _ _ ⟨((HB.out.cell (zD w _ hw182_0)).trans hw182_0), ((HB.out.cell (zD w _ hw183_0)).trans hw183_0)⟩ (fun hHeld => ?_)
                      clear hK K
                      refine norm_ (a' := ?_) ?_ ?_
                      rotate_left
                      ·
                       show Act.put _ (some 50) _ = _
                       simp only [Act.put, zA, zB, zC, i64_w, i32_w]
                       rfl
                      exact norm_ (by first | (simp only [putAll, Act.put, zA, zB, zC]; done) | (simp only [putAll, Act.put, zA, zB, zC]; rfl)) (hJ9_11 () _ ⟨hHeld, (by (with_reducible repeat (first | refine zI ?_ _ | refine zJ ?_ | refine zK ?_ _)); exact BK177.out), (by repeat (first | (with_reducible first | exact HB.out | apply zG | apply zE | apply zF | refine zH ?_ GE177.out) | exact HB.out))⟩)
                     ·
                      skip
                      refine Kd.R_lit_step (Kd.int .u8) _ 5 ?hg (N := 51) ?hd (xs := ([] : List Int)) (inner := []) (ok := fun _ => True) (okp := fun _ => True) ?hr ?hp (fun _ hk => hk) trivial (Below.refl _ _) (Nat.le_refl _) (by simp) ?_; (case hd => rfl); (case hg => rfl); (case hr => first | (go_simp; done) | (go_simp; rfl)); (case hp => exact (Reps.none _ _))
                      intro v187 w49 ho50 hb hg_ hnew_
                      clear hg_ hnew_
                      (first | rw [← Ny186.out] at ho50 | (simp only [Int.reduceToNat] at ho50; rw [← Ny186.out] at ho50))
                      have n0_ := Aside0.mk (Kd.R_lower ho50 (below_size (by repeat (first | (with_reducible first | exact HB.out | apply zG | apply zE | apply zF | refine zH ?_ GE177.out) | exact HB.out))))
                      have n1_ := Aside0.mk (blk_below (g := gb177) (o := .cells #[.int .i64 0, .int .i64 0, .int .i64 0, .int .i64 0, .slice none 0 0] 24 (0, 0)) (by (with_reducible repeat (first | refine zI ?_ _ | refine zJ ?_ | refine zK ?_ _)); exact BK177.out) hb)
                      have n2_ := Aside0.mk (below_step (by repeat (first | (with_reducible first | exact HB.out | apply zG | apply zE | apply zF | refine zH ?_ GE177.out) | exact HB.out)) hb)
                      clear BK177
                      clear HB
                      have HO188 := n0_
                      have BK177 := n1_
                      have HB := n2_
                      clear n0_ n1_ n2_
                      clear hb ho50
                      refine hK.out _ _ ⟨((HB.out.cell (zD w _ hw182_0)).trans hw182_0), ((HB.out.cell (zD w _ hw183_0)).trans hw183_0)⟩ (fun hHeld => ?_)
                      clear hK K
                      refine norm_ (a' := ?_) ?_ ?_
                      rotate_left
                      ·
                       show Act.put _ (some 51) _ = _
                       simp only [Act.put, zA, zB, zC, i64_w, i32_w]
                       rfl
                      exact norm_ (by first | (simp only [putAll, Act.put, zA, zB, zC]; done) | (simp only [putAll, Act.put, zA, zB, zC]; rfl)) (hJ9_12 (v187) _ ⟨hHeld, (by (with_reducible repeat (first | apply Kd.R_alloc | apply Kd.R_drewN | apply Kd.R_drew)); exact HO188.out), (by (with_reducible repeat (first | refine zI ?_ _ | refine zJ ?_ | refine zK ?_ _)); exact BK177.out), (by repeat (first | (with_reducible first | exact HB.out | apply zG | apply zE | apply zF | refine zH ?_ GE177.out) | exact HB.out))⟩)
                     ·
                      skip
                      refine box_step ?hg (N := 4) ?hd (cs := #[.int .i64 0, .int .i64 0, .int .i64 0, .int .i64 0, .slice none 0 0]) (t := 24) ?hr ?_; (case hd => rfl); (case hg => rfl); (case hr => first | (go_simp; done) | (go_simp; rfl))
                      intro gb193 hg w49 hbox hb
                      have n0_ := Aside0.mk (blk_below (g := gb177) (o := .cells #[.int .i64 0, .int .i64 0, .int .i64 0, .int .i64 0, .slice none 0 0] 24 (0, 0)) (by (with_reducible repeat (first | refine zI ?_ _ | refine zJ ?_ | refine zK ?_ _)); exact BK177.out) hb)
                      have n1_ := Aside0.mk (below_step (by repeat (first | (with_reducible first | exact HB.out | apply zG | apply zE | apply zF | refine zH ?_ GE177.out) | exact HB.out)) hb)
                      have n2_ := Aside0.mk (hbox)
                      have n3_ := Aside0.mk ((by rw [hg]; exact (below_size (by repeat (first | (with_reducible first | exact HB.out | apply zG | apply zE | apply zF | refine zH ?_ GE177.out) | exact HB.out))) : w.heap.size ≤ gb193))
                      have n4_ := Aside0.mk ((by rw [hg]; exact (below_size (by repeat (first | (with_reducible first | exact HB.out | apply zG | apply zE | apply zF | refine zH ?_ GE177.out) | exact HB.out))) : w.heap.size ≤ gb193))
                      have n5_ := Aside0.mk ((by rw [hg]; exact zM (blk_lt (g := gb177) (o := .cells #[.int .i64 0, .int .i64 0, .int .i64 0, .int .i64 0, .slice none 0 0] 24 (0, 0)) (by (with_reducible repeat (first | refine zI ?_ _ | refine zJ ?_ | refine zK ?_ _)); exact BK177.out)) : gb177 ≠ gb193))
                      have n6_ := Aside0.mk ((by rw [hg]; exact Nat.ne_of_gt (blk_lt (g := gb177) (o := .cells #[.int .i64 0, .int .i64 0, .int .i64 0, .int .i64 0, .slice none 0 0] 24 (0, 0)) (by (with_reducible repeat (first | refine zI ?_ _ | refine zJ ?_ | refine zK ?_ _)); exact BK177.out)) : gb193 ≠ gb177))
                      clear BK177
                      clear HB
                      have BK177 := n0_
                      have HB := n1_
                      have BK193 := n2_
                      have GW193 := n3_
                      have GE193 := n4_
                      have NB177_193 := n5_
                      have NB193_177 := n6_
                      clear n0_ n1_ n2_ n3_ n4_ n5_ n6_
                      clear hb hbox hg
                      refine hK.out _ _ ⟨((HB.out.cell (zD w _ hw182_0)).trans hw182_0), ((HB.out.cell (zD w _ hw183_0)).trans hw183_0)⟩ (fun hHeld => ?_)
                      clear hK K
                      refine norm_ (a' := ?_) ?_ ?_
                      rotate_left
                      ·
                       show Act.put _ (some 4) _ = _
                       simp only [Act.put, zA, zB, zC, i64_w, i32_w]
                       rfl
                      exact norm_ (by first | (simp only [putAll, Act.put, zA, zB, zC]; done) | (simp only [putAll, Act.put, zA, zB, zC]; rfl)) (hJ9_17 (gb193) _ ⟨hHeld, (by (with_reducible repeat (first | refine zI ?_ _ | refine zJ ?_ | refine zK ?_ _)); exact BK177.out), (by (with_reducible repeat (first | refine zI ?_ _ | refine zJ ?_ | refine zK ?_ _)); exact BK193.out), GW193.out, GE193.out, NB177_193.out, NB193_177.out, (by repeat (first | (with_reducible first | exact HB.out | apply zG | apply zE | apply zF | refine zH ?_ GE177.out | refine zH ?_ GE193.out) | exact HB.out))⟩)
                   ·
                    skip
                    rintro ⟨v187, gb193⟩ w51 ⟨hS_, h0_, h1_, h2_, h3_, h4_, h5_, h6_, h7_⟩
                    have n0_ : Aside0 (Kd.R (Kd.int .u8) 5 w51 w.heap.size (fun _ => True) v187 y186) := ⟨h0_⟩
                    have n1_ : Aside0 (w51.heap[gb177]? = some (.cells #[.int .i64 0, .int .i64 0, .int .i64 0, .int .i64 0, .slice none 0 0] 24 (0, 0))) := ⟨h1_⟩
                    have n2_ : Aside0 (w51.heap[gb193]? = some (.cells #[.int .i64 0, .int .i64 0, .int .i64 0, .int .i64 0, .slice none 0 0] 24 (0, 0))) := ⟨h2_⟩
                    have n3_ : Aside0 (w.heap.size ≤ gb193) := ⟨h3_⟩
                    have n4_ : Aside0 (w.heap.size ≤ gb193) := ⟨h4_⟩
                    have n5_ : Aside0 (gb177 ≠ gb193) := ⟨h5_⟩
                    have n6_ : Aside0 (gb193 ≠ gb177) := ⟨h6_⟩
                    have n7_ : Aside0 (Below w.heap.size w w51) := ⟨h7_⟩
                    clear BK177
                    clear HB
                    clear h0_ h1_ h2_ h3_ h4_ h5_ h6_ h7_
                    have HO188 := n0_
                    have BK177 := n1_
                    have BK193 := n2_
                    have GW193 := n3_
                    have GE193 := n4_
                    have NB177_193 := n5_
                    have NB193_177 := n6_
                    have HB := n7_
                    clear n0_ n1_ n2_ n3_ n4_ n5_ n6_ n7_
                    have hHeld : w51.cell? ⟨ad182.block, ad182.off + 8, none⟩ = some (.int .u8 (rd l0 8)) ∧ w51.cell? ⟨ad182.block, ad182.off + 9, none⟩ = some (.int .u8 (rd l0 9)) := hS_
                    refine norm_ (a' := ?_) ?_ ?_
                    rotate_left
                    ·
                     simp only [putAll, Act.put, zA, zB, zC]
                     rfl
                    refine one_ (i := 9) (N := some 48) #[true, true, true, true, true, true, true, true, true, true, true, false, true, true, true, false, false, true, false] rfl rfl (one_of HT_.out (by kernel_rfl)) (by decide) (fun K hK => ?_)
                    refine goes_ Tryd.func23 (by kernel_rfl) rfl #[.slice (some ad182) l0.length c0, .int .i64 12] (by rfl) rfl rfl (by (try simp only [List.map_toArray, List.map_cons, List.map_nil]); first | done | rfl | (simp only [List.length_drop, List.length_take]; rfl)) ?_
                    with_reducible refine (plenumref1_Four.calls _ _ l0 12 t184 _ ?side1 ?side2 A19.out).mono ?_
                    (case side1 => repeat (first | exact (Kd.C_below HR0.out HB.out) | (with_reducible refine Kd.C_alloc ?_ _) | (with_reducible refine Kd.C_drewN ?_ _) | (with_reducible refine Kd.C_drew ?_)))
                    (case side2 => exact HC0.out)
                    rintro e w' ⟨rfl, ⟨nd, rfl⟩⟩
                    refine ⟨_, rfl, ?_⟩
                    refine hK.out _ _ ⟨((HB.out.cell (zD w _ hw182_0)).trans hw182_0), ((HB.out.cell (zD w _ hw183_0)).trans hw183_0)⟩ (fun hHeld => ?_)
                    clear hK K
                    refine norm_ (a' := ?_) ?_ ?_
                    rotate_left
                    ·
                     show Act.put _ (some 48) _ = _
                     simp only [Act.put, zA, zB, zC, i64_w, i32_w]
                     rfl
                    exact norm_ (by first | (simp only [putAll, Act.put, zA, zB, zC]; done) | (simp only [putAll, Act.put, zA, zB, zC]; rfl)) (hJ9_12_17 (v187, gb193) _ ⟨hHeld, (by (with_reducible repeat (first | apply Kd.R_alloc | apply Kd.R_drewN | apply Kd.R_drew)); exact HO188.out), (by (with_reducible repeat (first | refine zI ?_ _ | refine zJ ?_ | refine zK ?_ _)); exact BK177.out), (by (with_reducible repeat (first | refine zI ?_ _ | refine zJ ?_ | refine zK ?_ _)); exact BK193.out), GW193.out, GE193.out, NB177_193.out, NB193_177.out, (by repeat (first | (with_reducible first | exact HB.out | apply zG | apply zE | apply zF | refine zH ?_ GE177.out | refine zH ?_ GE193.out) | exact HB.out))⟩)
                  ·
                   skip
                   rintro gb193 w49 ⟨hS_, h0_, h1_, h2_, h3_, h4_, h5_, h6_⟩
                   have n0_ : Aside0 (w49.heap[gb177]? = some (.cells #[.int .i64 0, .int .i64 0, .int .i64 0, .int .i64 0, .slice none 0 0] 24 (0, 0))) := ⟨h0_⟩
                   have n1_ : Aside0 (w49.heap[gb193]? = some (.cells #[.int .i64 0, .int .i64 0, .int .i64 0, .int .i64 0, .slice none 0 0] 24 (0, 0))) := ⟨h1_⟩
                   have n2_ : Aside0 (w.heap.size ≤ gb193) := ⟨h2_⟩
                   have n3_ : Aside0 (w.heap.size ≤ gb193) := ⟨h3_⟩
                   have n4_ : Aside0 (gb177 ≠ gb193) := ⟨h4_⟩
                   have n5_ : Aside0 (gb193 ≠ gb177) := ⟨h5_⟩
                   have n6_ : Aside0 (Below w.heap.size w w49) := ⟨h6_⟩
                   clear BK177
                   clear HB
                   clear h0_ h1_ h2_ h3_ h4_ h5_ h6_
                   have BK177 := n0_
                   have BK193 := n1_
                   have GW193 := n2_
                   have GE193 := n3_
                   have NB177_193 := n4_
                   have NB193_177 := n5_
                   have HB := n6_
                   clear n0_ n1_ n2_ n3_ n4_ n5_ n6_
                   have hHeld : w49.cell? ⟨ad182.block, ad182.off + 8, none⟩ = some (.int .u8 (rd l0 8)) ∧ w49.cell? ⟨ad182.block, ad182.off + 9, none⟩ = some (.int .u8 (rd l0 9)) := hS_
                   refine norm_ (a' := ?_) ?_ ?_
                   rotate_left
                   ·
                    simp only [putAll, Act.put, zA, zB, zC]
                    rfl
                   refine two_ (i := 11) (j := 12) (Ni := some 50) (Nj := some 51) #[true, true, true, true, true, true, true, true, true, true, true, true, false, true, true, false, false, true, false] #[true, true, true, true, true, true, true, true, true, true, true, false, true, true, true, false, false, true, false] rfl rfl rfl rfl (two_of HT_.out (by kernel_rfl)) (by decide) (by decide) (fun K hK => ?_) (fun K hK => ?_)
                   ·
                    skip
                    refine goes_ Tryd.func23 (by kernel_rfl) rfl #[.slice (some ad182) l0.length c0, .int .i64 16] (by rfl) rfl rfl (by (try simp only [List.map_toArray, List.map_cons, List.map_nil]); first | done | rfl | (simp only [List.length_drop, List.length_take]; rfl)) ?_
                    with_reducible refine (plenumref1_Four.calls _ _ l0 16 t185 _ ?side1 ?side2 A20.out).mono ?_
                    (case side1 => repeat (first | exact (Kd.C_below HR0.out HB.out) | (with_reducible refine Kd.C_alloc ?_ _) | (with_reducible refine Kd.C_drewN ?_ _) | (with_reducible refine Kd.C_drew ?_)))
                    (case side2 => exact HC0.out)
                    rintro e w' ⟨rfl, ⟨nd, rfl⟩⟩
                    refine ⟨_, rfl, ?_⟩
                    refine hK.out _ _ ⟨((HB.out.cell (zD w _ hw182_0)).trans hw182_0), ((HB.out.cell (zD w _ hw183_0)).trans hw183_0)⟩ (fun hHeld => ?_)
                    clear hK K
                    refine norm_ (a' := ?_) ?_ ?_
                    rotate_left
                    ·
                     show Act.put _ (some 50) _ = _
                     simp only [Act.put, zA, zB, zC, i64_w, i32_w]
                     rfl
                    exact norm_ (by first | (simp only [putAll, Act.put, zA, zB, zC]; done) | (simp only [putAll, Act.put, zA, zB, zC]; rfl)) (hJ9_11_17 (gb193) _ ⟨hHeld, (by (with_reducible repeat (first | refine zI ?_ _ | refine zJ ?_ | refine zK ?_ _)); exact BK177.out), (by (with_reducible repeat (first | refine zI ?_ _ | refine zJ ?_ | refine zK ?_ _)); exact BK193.out), GW193.out, GE193.out, NB177_193.out, NB193_177.out, (by repeat (first | (with_reducible first | exact HB.out | apply zG | apply zE | apply zF | refine zH ?_ GE177.out | refine zH ?_ GE193.out) | exact HB.out))⟩)
                   ·
                    skip
                    refine Kd.R_lit_step (Kd.int .u8) _ 5 ?hg (N := 51) ?hd (xs := ([] : List Int)) (inner := []) (ok := fun _ => True) (okp := fun _ => True) ?hr ?hp (fun _ hk => hk) trivial (Below.refl _ _) (Nat.le_refl _) (by simp) ?_; (case hd => rfl); (case hg => rfl); (case hr => first | (go_simp; done) | (go_simp; rfl)); (case hp => exact (Reps.none _ _))
                    intro v187 w50 ho51 hb hg_ hnew_
                    clear hg_ hnew_
                    (first | rw [← Ny186.out] at ho51 | (simp only [Int.reduceToNat] at ho51; rw [← Ny186.out] at ho51))
                    have n0_ := Aside0.mk (Kd.R_lower ho51 (below_size (by repeat (first | (with_reducible first | exact HB.out | apply zG | apply zE | apply zF | refine zH ?_ GE177.out | refine zH ?_ GE193.out) | exact HB.out))))
                    have n1_ := Aside0.mk (blk_below (g := gb177) (o := .cells #[.int .i64 0, .int .i64 0, .int .i64 0, .int .i64 0, .slice none 0 0] 24 (0, 0)) (by (with_reducible repeat (first | refine zI ?_ _ | refine zJ ?_ | refine zK ?_ _)); exact BK177.out) hb)
                    have n2_ := Aside0.mk (blk_below (g := gb193) (o := .cells #[.int .i64 0, .int .i64 0, .int .i64 0, .int .i64 0, .slice none 0 0] 24 (0, 0)) (by (with_reducible repeat (first | refine zI ?_ _ | refine zJ ?_ | refine zK ?_ _)); exact BK193.out) hb)
                    have n3_ := Aside0.mk (below_step (by repeat (first | (with_reducible first | exact HB.out | apply zG | apply zE | apply zF | refine zH ?_ GE177.out | refine zH ?_ GE193.out) | exact HB.out)) hb)
                    clear BK177
                    clear BK193
                    clear HB
                    have HO188 := n0_
                    have BK177 := n1_
                    have BK193 := n2_
                    have HB := n3_
                    clear n0_ n1_ n2_ n3_
                    clear hb ho51
                    refine hK.out _ _ ⟨((HB.out.cell (zD w _ hw182_0)).trans hw182_0), ((HB.out.cell (zD w _ hw183_0)).trans hw183_0)⟩ (fun hHeld => ?_)
                    clear hK K
                    refine norm_ (a' := ?_) ?_ ?_
                    rotate_left
                    ·
                     show Act.put _ (some 51) _ = _
                     simp only [Act.put, zA, zB, zC, i64_w, i32_w]
                     rfl
                    exact norm_ (by first | (simp only [putAll, Act.put, zA, zB, zC]; done) | (simp only [putAll, Act.put, zA, zB, zC]; rfl)) (hJ9_12_17 (v187, gb193) _ ⟨hHeld, (by (with_reducible repeat (first | apply Kd.R_alloc | apply Kd.R_drewN | apply Kd.R_drew)); exact HO188.out), (by (with_reducible repeat (first | refine zI ?_ _ | refine zJ ?_ | refine zK ?_ _)); exact BK177.out), (by (with_reducible repeat (first | refine zI ?_ _ | refine zJ ?_ | refine zK ?_ _)); exact BK193.out), GW193.out, GE193.out, NB177_193.out, NB193_177.out, (by repeat (first | (with_reducible first | exact HB.out | apply zG | apply zE | apply zF | refine zH ?_ GE177.out | refine zH ?_ GE193.out) | exact HB.out))⟩)
                 ·
                  skip
                  rintro v187 w50 ⟨hS_, h0_, h1_, h2_⟩
                  have n0_ : Aside0 (Kd.R (Kd.int .u8) 5 w50 w.heap.size (fun _ => True) v187 y186) := ⟨h0_⟩
                  have n1_ : Aside0 (w50.heap[gb177]? = some (.cells #[.int .i64 0, .int .i64 0, .int .i64 0, .int .i64 0, .slice none 0 0] 24 (0, 0))) := ⟨h1_⟩
                  have n2_ : Aside0 (Below w.heap.size w w50) := ⟨h2_⟩
                  clear BK177
                  clear HB
                  clear h0_ h1_ h2_
                  have HO188 := n0_
                  have BK177 := n1_
                  have HB := n2_
                  clear n0_ n1_ n2_
                  have hHeld : w50.cell? ⟨ad182.block, ad182.off + 8, none⟩ = some (.int .u8 (rd l0 8)) ∧ w50.cell? ⟨ad182.block, ad182.off + 9, none⟩ = some (.int .u8 (rd l0 9)) := hS_
                  refine norm_ (a' := ?_) ?_ ?_
                  rotate_left
                  ·
                   simp only [putAll, Act.put, zA, zB, zC]
                   rfl
                  refine two_ (i := 11) (j := 17) (Ni := some 50) (Nj := some 4) #[true, true, true, true, true, true, true, true, true, true, true, true, true, true, true, false, false, false, false] #[true, true, true, true, true, true, true, true, true, true, true, false, true, true, true, false, false, true, false] rfl rfl rfl rfl (two_of HT_.out (by kernel_rfl)) (by decide) (by decide) (fun K hK => ?_) (fun K hK => ?_)
                  ·
                   skip
                   refine goes_ Tryd.func23 (by kernel_rfl) rfl #[.slice (some ad182) l0.length c0, .int .i64 16] (by rfl) rfl rfl (by (try simp only [List.map_toArray, List.map_cons, List.map_nil]); first | done | rfl | (simp only [List.length_drop, List.length_take]; rfl)) ?_
                   with_reducible refine (plenumref1_Four.calls _ _ l0 16 t185 _ ?side1 ?side2 A20.out).mono ?_
                   (case side1 => repeat (first | exact (Kd.C_below HR0.out HB.out) | (with_reducible refine Kd.C_alloc ?_ _) | (with_reducible refine Kd.C_drewN ?_ _) | (with_reducible refine Kd.C_drew ?_)))
                   (case side2 => exact HC0.out)
                   rintro e w' ⟨rfl, ⟨nd, rfl⟩⟩
                   refine ⟨_, rfl, ?_⟩
                   refine hK.out _ _ ⟨((HB.out.cell (zD w _ hw182_0)).trans hw182_0), ((HB.out.cell (zD w _ hw183_0)).trans hw183_0)⟩ (fun hHeld => ?_)
                   clear hK K
                   refine norm_ (a' := ?_) ?_ ?_
                   rotate_left
                   ·
                    show Act.put _ (some 50) _ = _
                    simp only [Act.put, zA, zB, zC, i64_w, i32_w]
                    rfl
                   exact norm_ (by first | (simp only [putAll, Act.put, zA, zB, zC]; done) | (simp only [putAll, Act.put, zA, zB, zC]; rfl)) (hJ9_11_12 (v187) _ ⟨hHeld, (by (with_reducible repeat (first | apply Kd.R_alloc | apply Kd.R_drewN | apply Kd.R_drew)); exact HO188.out), (by (with_reducible repeat (first | refine zI ?_ _ | refine zJ ?_ | refine zK ?_ _)); exact BK177.out), (by repeat (first | (with_reducible first | exact HB.out | apply zG | apply zE | apply zF | refine zH ?_ GE177.out) | exact HB.out))⟩)
                  ·
                   skip
                   refine box_step ?hg (N := 4) ?hd (cs := #[.int .i64 0, .int .i64 0, .int .i64 0, .int .i64 0, .slice none 0 0]) (t := 24) ?hr ?_; (case hd => rfl); (case hg => rfl); (case hr => first | (go_simp; done) | (go_simp; rfl))
                   intro gb193 hg w51 hbox hb
                   have n0_ := Aside0.mk (Kd.R_below (by (with_reducible repeat (first | apply Kd.R_alloc | apply Kd.R_drewN | apply Kd.R_drew)); exact HO188.out) hb)
                   have n1_ := Aside0.mk (blk_below (g := gb177) (o := .cells #[.int .i64 0, .int .i64 0, .int .i64 0, .int .i64 0, .slice none 0 0] 24 (0, 0)) (by (with_reducible repeat (first | refine zI ?_ _ | refine zJ ?_ | refine zK ?_ _)); exact BK177.out) hb)
                   have n2_ := Aside0.mk (below_step (by repeat (first | (with_reducible first | exact HB.out | apply zG | apply zE | apply zF | refine zH ?_ GE177.out) | exact HB.out)) hb)
                   have n3_ := Aside0.mk (hbox)
                   have n4_ := Aside0.mk ((by rw [hg]; exact (below_size (by repeat (first | (with_reducible first | exact HB.out | apply zG | apply zE | apply zF | refine zH ?_ GE177.out) | exact HB.out))) : w.heap.size ≤ gb193))
                   have n5_ := Aside0.mk ((by rw [hg]; exact (below_size (by repeat (first | (with_reducible first | exact HB.out | apply zG | apply zE | apply zF | refine zH ?_ GE177.out) | exact HB.out))) : w.heap.size ≤ gb193))
                   have n6_ := Aside0.mk ((by rw [hg]; exact zM (blk_lt (g := gb177) (o := .cells #[.int .i64 0, .int .i64 0, .int .i64 0, .int .i64 0, .slice none 0 0] 24 (0, 0)) (by (with_reducible repeat (first | refine zI ?_ _ | refine zJ ?_ | refine zK ?_ _)); exact BK177.out)) : gb177 ≠ gb193))
                   have n7_ := Aside0.mk ((by rw [hg]; exact Nat.ne_of_gt (blk_lt (g := gb177) (o := .cells #[.int .i64 0, .int .i64 0, .int .i64 0, .int .i64 0, .slice none 0 0] 24 (0, 0)) (by (with_reducible repeat (first | refine zI ?_ _ | refine zJ ?_ | refine zK ?_ _)); exact BK177.out)) : gb193 ≠ gb177))
                   clear HO188
                   clear BK177
                   clear HB
                   have HO188 := n0_
                   have BK177 := n1_
                   have HB := n2_
                   have BK193 := n3_
                   have GW193 := n4_
                   have GE193 := n5_
                   have NB177_193 := n6_
                   have NB193_177 := n7_
                   clear n0_ n1_ n2_ n3_ n4_ n5_ n6_ n7_
                   clear hb hbox hg
                   refine hK.out _ _ ⟨((HB.out.cell (zD w _ hw182_0)).trans hw182_0), ((HB.out.cell (zD w _ hw183_0)).trans hw183_0)⟩ (fun hHeld => ?_)
                   clear hK K
                   refine norm_ (a' := ?_) ?_ ?_
                   rotate_left
                   ·
                    show Act.put _ (some 4) _ = _
                    simp only [Act.put, zA, zB, zC, i64_w, i32_w]
                    rfl
                   exact norm_ (by first | (simp only [putAll, Act.put, zA, zB, zC]; done) | (simp only [putAll, Act.put, zA, zB, zC]; rfl)) (hJ9_12_17 (v187, gb193) _ ⟨hHeld, (by (with_reducible repeat (first | apply Kd.R_alloc | apply Kd.R_drewN | apply Kd.R_drew)); exact HO188.out), (by (with_reducible repeat (first | refine zI ?_ _ | refine zJ ?_ | refine zK ?_ _)); exact BK177.out), (by (with_reducible repeat (first | refine zI ?_ _ | refine zJ ?_ | refine zK ?_ _)); exact BK193.out), GW193.out, GE193.out, NB177_193.out, NB193_177.out, (by repeat (first | (with_reducible first | exact HB.out | apply zG | apply zE | apply zF | refine zH ?_ GE177.out | refine zH ?_ GE193.out) | exact HB.out))⟩)
                ·
                 skip
                 rintro _ w48 ⟨hS_, h0_, h1_⟩
                 have n0_ : Aside0 (w48.heap[gb177]? = some (.cells #[.int .i64 0, .int .i64 0, .int .i64 0, .int .i64 0, .slice none 0 0] 24 (0, 0))) := ⟨h0_⟩
                 have n1_ : Aside0 (Below w.heap.size w w48) := ⟨h1_⟩
                 clear BK177
                 clear HB
                 clear h0_ h1_
                 have BK177 := n0_
                 have HB := n1_
                 clear n0_ n1_
                 have hHeld : w48.cell? ⟨ad182.block, ad182.off + 8, none⟩ = some (.int .u8 (rd l0 8)) ∧ w48.cell? ⟨ad182.block, ad182.off + 9, none⟩ = some (.int .u8 (rd l0 9)) := hS_
                 refine norm_ (a' := ?_) ?_ ?_
                 rotate_left
                 ·
                  simp only [putAll, Act.put, zA, zB, zC]
                  rfl
                 refine two_ (i := 12) (j := 17) (Ni := some 51) (Nj := some 4) #[true, true, true, true, true, true, true, true, true, true, true, true, true, true, true, false, false, false, false] #[true, true, true, true, true, true, true, true, true, true, true, true, false, true, true, false, false, true, false] rfl rfl rfl rfl (two_of HT_.out (by kernel_rfl)) (by decide) (by decide) (fun K hK => ?_) (fun K hK => ?_)
                 ·
                  skip
                  refine Kd.R_lit_step (Kd.int .u8) _ 5 ?hg (N := 51) ?hd (xs := ([] : List Int)) (inner := []) (ok := fun _ => True) (okp := fun _ => True) ?hr ?hp (fun _ hk => hk) trivial (Below.refl _ _) (Nat.le_refl _) (by simp) ?_; (case hd => rfl); (case hg => rfl); (case hr => first | (go_simp; done) | (go_simp; rfl)); (case hp => exact (Reps.none _ _))
                  intro v187 w49 ho50 hb hg_ hnew_
                  clear hg_ hnew_
                  (first | rw [← Ny186.out] at ho50 | (simp only [Int.reduceToNat] at ho50; rw [← Ny186.out] at ho50))
                  have n0_ := Aside0.mk (Kd.R_lower ho50 (below_size (by repeat (first | (with_reducible first | exact HB.out | apply zG | apply zE | apply zF | refine zH ?_ GE177.out) | exact HB.out))))
                  have n1_ := Aside0.mk (blk_below (g := gb177) (o := .cells #[.int .i64 0, .int .i64 0, .int .i64 0, .int .i64 0, .slice none 0 0] 24 (0, 0)) (by (with_reducible repeat (first | refine zI ?_ _ | refine zJ ?_ | refine zK ?_ _)); exact BK177.out) hb)
                  have n2_ := Aside0.mk (below_step (by repeat (first | (with_reducible first | exact HB.out | apply zG | apply zE | apply zF | refine zH ?_ GE177.out) | exact HB.out)) hb)
                  clear BK177
                  clear HB
                  have HO188 := n0_
                  have BK177 := n1_
                  have HB := n2_
                  clear n0_ n1_ n2_
                  clear hb ho50
                  refine hK.out _ _ ⟨((HB.out.cell (zD w _ hw182_0)).trans hw182_0), ((HB.out.cell (zD w _ hw183_0)).trans hw183_0)⟩ (fun hHeld => ?_)
                  clear hK K
                  refine norm_ (a' := ?_) ?_ ?_
                  rotate_left
                  ·
                   show Act.put _ (some 51) _ = _
                   simp only [Act.put, zA, zB, zC, i64_w, i32_w]
                   rfl
                  exact norm_ (by first | (simp only [putAll, Act.put, zA, zB, zC]; done) | (simp only [putAll, Act.put, zA, zB, zC]; rfl)) (hJ9_11_12 (v187) _ ⟨hHeld, (by (with_reducible repeat (first | apply Kd.R_alloc | apply Kd.R_drewN | apply Kd.R_drew)); exact HO188.out), (by (with_reducible repeat (first | refine zI ?_ _ | refine zJ ?_ | refine zK ?_ _)); exact BK177.out), (by repeat (first | (with_reducible first | exact HB.out | apply zG | apply zE | apply zF | refine zH ?_ GE177.out) | exact HB.out))⟩)
                 ·
                  skip
                  refine box_step ?hg (N := 4) ?hd (cs := #[.int .i64 0, .int .i64 0, .int .i64 0, .int .i64 0, .slice none 0 0]) (t := 24) ?hr ?_; (case hd => rfl); (case hg => rfl); (case hr => first | (go_simp; done) | (go_simp; rfl))
                  intro gb193 hg w49 hbox hb
                  have n0_ := Aside0.mk (blk_below (g := gb177) (o := .cells #[.int .i64 0, .int .i64 0, .int .i64 0, .int .i64 0, .slice none 0 0] 24 (0, 0)) (by (with_reducible repeat (first | refine zI ?_ _ | refine zJ ?_ | refine zK ?_ _)); exact BK177.out) hb)
                  have n1_ := Aside0.mk (below_step (by repeat (first | (with_reducible first | exact HB.out | apply zG | apply zE | apply zF | refine zH ?_ GE177.out) | exact HB.out)) hb)
                  have n2_ := Aside0.mk (hbox)
                  have n3_ := Aside0.mk ((by rw [hg]; exact (below_size (by repeat (first | (with_reducible first | exact HB.out | apply zG | apply zE | apply zF | refine zH ?_ GE177.out) | exact HB.out))) : w.heap.size ≤ gb193))
                  have n4_ := Aside0.mk ((by rw [hg]; exact (below_size (by repeat (first | (with_reducible first | exact HB.out | apply zG | apply zE | apply zF | refine zH ?_ GE177.out) | exact HB.out))) : w.heap.size ≤ gb193))
                  have n5_ := Aside0.mk ((by rw [hg]; exact zM (blk_lt (g := gb177) (o := .cells #[.int .i64 0, .int .i64 0, .int .i64 0, .int .i64 0, .slice none 0 0] 24 (0, 0)) (by (with_reducible repeat (first | refine zI ?_ _ | refine zJ ?_ | refine zK ?_ _)); exact BK177.out)) : gb177 ≠ gb193))
                  have n6_ := Aside0.mk ((by rw [hg]; exact Nat.ne_of_gt (blk_lt (g := gb177) (o := .cells #[.int .i64 0, .int .i64 0, .int .i64 0, .int .i64 0, .slice none 0 0] 24 (0, 0)) (by (with_reducible repeat (first | refine zI ?_ _ | refine zJ ?_ | refine zK ?_ _)); exact BK177.out)) : gb193 ≠ gb177))
                  clear BK177
                  clear HB
                  have BK177 := n0_
                  have HB := n1_
                  have BK193 := n2_
                  have GW193 := n3_
                  have GE193 := n4_
                  have NB177_193 := n5_
                  have NB193_177 := n6_
                  clear n0_ n1_ n2_ n3_ n4_ n5_ n6_
                  clear hb hbox hg
                  refine hK.out _ _ ⟨((HB.out.cell (zD w _ hw182_0)).trans hw182_0), ((HB.out.cell (zD w _ hw183_0)).trans hw183_0)⟩ (fun hHeld => ?_)
                  clear hK K
                  refine norm_ (a' := ?_) ?_ ?_
                  rotate_left
                  ·
                   show Act.put _ (some 4) _ = _
                   simp only [Act.put, zA, zB, zC, i64_w, i32_w]
                   rfl
                  exact norm_ (by first | (simp only [putAll, Act.put, zA, zB, zC]; done) | (simp only [putAll, Act.put, zA, zB, zC]; rfl)) (hJ9_11_17 (gb193) _ ⟨hHeld, (by (with_reducible repeat (first | refine zI ?_ _ | refine zJ ?_ | refine zK ?_ _)); exact BK177.out), (by (with_reducible repeat (first | refine zI ?_ _ | refine zJ ?_ | refine zK ?_ _)); exact BK193.out), GW193.out, GE193.out, NB177_193.out, NB193_177.out, (by repeat (first | (with_reducible first | exact HB.out | apply zG | apply zE | apply zF | refine zH ?_ GE177.out | refine zH ?_ GE193.out) | exact HB.out))⟩)
               ·
                skip
                rintro ⟨v187, gb193⟩ w51 ⟨hS_, h0_, h1_, h2_, h3_, h4_, h5_, h6_, h7_⟩
                have n0_ : Aside0 (Kd.R (Kd.int .u8) 5 w51 w.heap.size (fun _ => True) v187 y186) := ⟨h0_⟩
                have n1_ : Aside0 (w51.heap[gb177]? = some (.cells #[.int .i64 0, .int .i64 0, .int .i64 0, .int .i64 0, .slice none 0 0] 24 (0, 0))) := ⟨h1_⟩
                have n2_ : Aside0 (w51.heap[gb193]? = some (.cells #[.int .i64 0, .int .i64 0, .int .i64 0, .int .i64 0, .slice none 0 0] 24 (0, 0))) := ⟨h2_⟩
                have n3_ : Aside0 (w.heap.size ≤ gb193) := ⟨h3_⟩
                have n4_ : Aside0 (w.heap.size ≤ gb193) := ⟨h4_⟩
                have n5_ : Aside0 (gb177 ≠ gb193) := ⟨h5_⟩
                have n6_ : Aside0 (gb193 ≠ gb177) := ⟨h6_⟩
                have n7_ : Aside0 (Below w.heap.size w w51) := ⟨h7_⟩
                clear BK177
                clear HB
                clear h0_ h1_ h2_ h3_ h4_ h5_ h6_ h7_
                have HO188 := n0_
                have BK177 := n1_
                have BK193 := n2_
                have GW193 := n3_
                have GE193 := n4_
                have NB177_193 := n5_
                have NB193_177 := n6_
                have HB := n7_
                clear n0_ n1_ n2_ n3_ n4_ n5_ n6_ n7_
                have hHeld : w51.cell? ⟨ad182.block, ad182.off + 8, none⟩ = some (.int .u8 (rd l0 8)) ∧ w51.cell? ⟨ad182.block, ad182.off + 9, none⟩ = some (.int .u8 (rd l0 9)) := hS_
                refine norm_ (a' := ?_) ?_ ?_
                rotate_left
                ·
                 simp only [putAll, Act.put, zA, zB, zC]
                 rfl
                refine one_ (i := 11) (N := some 50) #[true, true, true, true, true, true, true, true, true, true, true, true, true, true, true, false, false, true, false] rfl rfl (one_of HT_.out (by kernel_rfl)) (by decide) (fun K hK => ?_)
                refine goes_ Tryd.func23 (by kernel_rfl) rfl #[.slice (some ad182) l0.length c0, .int .i64 16] (by rfl) rfl rfl (by (try simp only [List.map_toArray, List.map_cons, List.map_nil]); first | done | rfl | (simp only [List.length_drop, List.length_take]; rfl)) ?_
                with_reducible refine (plenumref1_Four.calls _ _ l0 16 t185 _ ?side1 ?side2 A20.out).mono ?_
                (case side1 => repeat (first | exact (Kd.C_below HR0.out HB.out) | (with_reducible refine Kd.C_alloc ?_ _) | (with_reducible refine Kd.C_drewN ?_ _) | (with_reducible refine Kd.C_drew ?_)))
                (case side2 => exact HC0.out)
                rintro e w' ⟨rfl, ⟨nd, rfl⟩⟩
                refine ⟨_, rfl, ?_⟩
                refine hK.out _ _ ⟨((HB.out.cell (zD w _ hw182_0)).trans hw182_0), ((HB.out.cell (zD w _ hw183_0)).trans hw183_0)⟩ (fun hHeld => ?_)
                clear hK K
                refine norm_ (a' := ?_) ?_ ?_
                rotate_left
                ·
                 show Act.put _ (some 50) _ = _
                 simp only [Act.put, zA, zB, zC, i64_w, i32_w]
                 rfl
                exact norm_ (by first | (simp only [putAll, Act.put, zA, zB, zC]; done) | (simp only [putAll, Act.put, zA, zB, zC]; rfl)) (hJ9_11_12_17 (v187, gb193) _ ⟨hHeld, (by (with_reducible repeat (first | apply Kd.R_alloc | apply Kd.R_drewN | apply Kd.R_drew)); exact HO188.out), (by (with_reducible repeat (first | refine zI ?_ _ | refine zJ ?_ | refine zK ?_ _)); exact BK177.out), (by (with_reducible repeat (first | refine zI ?_ _ | refine zJ ?_ | refine zK ?_ _)); exact BK193.out), GW193.out, GE193.out, NB177_193.out, NB193_177.out, (by repeat (first | (with_reducible first | exact HB.out | apply zG | apply zE | apply zF | refine zH ?_ GE177.out | refine zH ?_ GE193.out) | exact HB.out))⟩)
              ·
               skip
               rintro gb193 w49 ⟨hS_, h0_, h1_, h2_, h3_, h4_, h5_, h6_⟩
               have n0_ : Aside0 (w49.heap[gb177]? = some (.cells #[.int .i64 0, .int .i64 0, .int .i64 0, .int .i64 0, .slice none 0 0] 24 (0, 0))) := ⟨h0_⟩
               have n1_ : Aside0 (w49.heap[gb193]? = some (.cells #[.int .i64 0, .int .i64 0, .int .i64 0, .int .i64 0, .slice none 0 0] 24 (0, 0))) := ⟨h1_⟩
               have n2_ : Aside0 (w.heap.size ≤ gb193) := ⟨h2_⟩
               have n3_ : Aside0 (w.heap.size ≤ gb193) := ⟨h3_⟩
               have n4_ : Aside0 (gb177 ≠ gb193) := ⟨h4_⟩
               have n5_ : Aside0 (gb193 ≠ gb177) := ⟨h5_⟩
               have n6_ : Aside0 (Below w.heap.size w w49) := ⟨h6_⟩
               clear BK177
               clear HB
               clear h0_ h1_ h2_ h3_ h4_ h5_ h6_
               have BK177 := n0_
               have BK193 := n1_
               have GW193 := n2_
               have GE193 := n3_
               have NB177_193 := n4_
               have NB193_177 := n5_
               have HB := n6_
               clear n0_ n1_ n2_ n3_ n4_ n5_ n6_
               have hHeld : w49.cell? ⟨ad182.block, ad182.off + 8, none⟩ = some (.int .u8 (rd l0 8)) ∧ w49.cell? ⟨ad182.block, ad182.off + 9, none⟩ = some (.int .u8 (rd l0 9)) := hS_
               refine norm_ (a' := ?_) ?_ ?_
               rotate_left
               ·
                simp only [putAll, Act.put, zA, zB, zC]
                rfl
               refine one_ (i := 12) (N := some 51) #[true, true, true, true, true, true, true, true, true, true, true, true, true, true, true, false, false, true, false] rfl rfl (one_of HT_.out (by kernel_rfl)) (by decide) (fun K hK => ?_)
               refine Kd.R_lit_step (Kd.int .u8) _ 5 ?hg (N := 51) ?hd (xs := ([] : List Int)) (inner := []) (ok := fun _ => True) (okp := fun _ => True) ?hr ?hp (fun _ hk => hk) trivial (Below.refl _ _) (Nat.le_refl _) (by simp) ?_; (case hd => rfl); (case hg => rfl); (case hr => first | (go_simp; done) | (go_simp; rfl)); (case hp => exact (Reps.none _ _))
               intro v187 w50 ho51 hb hg_ hnew_
               clear hg_ hnew_
               (first | rw [← Ny186.out] at ho51 | (simp only [Int.reduceToNat] at ho51; rw [← Ny186.out] at ho51))
               have n0_ := Aside0.mk (Kd.R_lower ho51 (below_size (by repeat (first | (with_reducible first | exact HB.out | apply zG | apply zE | apply zF | refine zH ?_ GE177.out | refine zH ?_ GE193.out) | exact HB.out))))
               have n1_ := Aside0.mk (blk_below (g := gb177) (o := .cells #[.int .i64 0, .int .i64 0, .int .i64 0, .int .i64 0, .slice none 0 0] 24 (0, 0)) (by (with_reducible repeat (first | refine zI ?_ _ | refine zJ ?_ | refine zK ?_ _)); exact BK177.out) hb)
               have n2_ := Aside0.mk (blk_below (g := gb193) (o := .cells #[.int .i64 0, .int .i64 0, .int .i64 0, .int .i64 0, .slice none 0 0] 24 (0, 0)) (by (with_reducible repeat (first | refine zI ?_ _ | refine zJ ?_ | refine zK ?_ _)); exact BK193.out) hb)
               have n3_ := Aside0.mk (below_step (by repeat (first | (with_reducible first | exact HB.out | apply zG | apply zE | apply zF | refine zH ?_ GE177.out | refine zH ?_ GE193.out) | exact HB.out)) hb)
               clear BK177
               clear BK193
               clear HB
               have HO188 := n0_
               have BK177 := n1_
               have BK193 := n2_
               have HB := n3_
               clear n0_ n1_ n2_ n3_
               clear hb ho51
               refine hK.out _ _ ⟨((HB.out.cell (zD w _ hw182_0)).trans hw182_0), ((HB.out.cell (zD w _ hw183_0)).trans hw183_0)⟩ (fun hHeld => ?_)
               clear hK K
               refine norm_ (a' := ?_) ?_ ?_
               rotate_left
               ·
                show Act.put _ (some 51) _ = _
                simp only [Act.put, zA, zB, zC, i64_w, i32_w]
                rfl
               exact norm_ (by first | (simp only [putAll, Act.put, zA, zB, zC]; done) | (simp only [putAll, Act.put, zA, zB, zC]; rfl)) (hJ9_11_12_17 (v187, gb193) _ ⟨hHeld, (by (with_reducible repeat (first | apply Kd.R_alloc | apply Kd.R_drewN | apply Kd.R_drew)); exact HO188.out), (by (with_reducible repeat (first | refine zI ?_ _ | refine zJ ?_ | refine zK ?_ _)); exact BK177.out), (by (with_reducible repeat (first | refine zI ?_ _ | refine zJ ?_ | refine zK ?_ _)); exact BK193.out), GW193.out, GE193.out, NB177_193.out, NB193_177.out, (by repeat (first | (with_reducible first | exact HB.out | apply zG | apply zE | apply zF | refine zH ?_ GE177.out | refine zH ?_ GE193.out) | exact HB.out))⟩)
             ·
              skip
              rintro v187 w50 ⟨hS_, h0_, h1_, h2_⟩
              have n0_ : Aside0 (Kd.R (Kd.int .u8) 5 w50 w.heap.size (fun _ => True) v187 y186) := ⟨h0_⟩
              have n1_ : Aside0 (w50.heap[gb177]? = some (.cells #[.int .i64 0, .int .i64 0, .int .i64 0, .int .i64 0, .slice none 0 0] 24 (0, 0))) := ⟨h1_⟩
              have n2_ : Aside0 (Below w.heap.size w w50) := ⟨h2_⟩
              clear BK177
              clear HB
              clear h0_ h1_ h2_
              have HO188 := n0_
              have BK177 := n1_
              have HB := n2_
              clear n0_ n1_ n2_
              have hHeld : w50.cell? ⟨ad182.block, ad182.off + 8, none⟩ = some (.int .u8 (rd l0 8)) ∧ w50.cell? ⟨ad182.block, ad182.off + 9, none⟩ = some (.int .u8 (rd l0 9)) := hS_
              refine norm_ (a' := ?_) ?_ ?_
              rotate_left
              ·
               simp only [putAll, Act.put, zA, zB, zC]
               rfl
              refine two_ (i := 15) (j := 17) (Ni := some 54) (Nj := some 4) #[true, true, true, true, true, true, true, true, true, true, true, true, true, true, true, true, false, false, false] #[true, true, true, true, true, true, true, true, true, true, true, true, true, true, true, false, false, true, false] rfl rfl rfl rfl (two_of HT_.out (by kernel_rfl)) (by decide) (by decide) (fun K hK => ?_) (fun K hK => ?_)
              ·
               skip
               refine Kd.R_append_rows_step (Kd.int .u8) (w0 := w) w.heap.size (by rfl) (.tmp 51) (.tmp 53) 22 5 (.int .u8 0) 1 rfl Tryd.underlying22 info5 rfl (by decide) (by omega) v187 y186 (l0.drop 20) _ _ _ (fun _ => True) (fun _ => False) rfl rfl ?aO ?aR (fun _ _ h => h) (fun _ h => h.elim) ?aF ?aB ?aS ?aL ?_
               (case aR => first | (rw [← show (l0.drop 20).length = (l0.length - 20) from List.length_drop]; repeat (first | exact (Kd.C_below HR189.out HB.out) | (with_reducible refine Kd.C_alloc ?_ _) | (with_reducible refine Kd.C_drewN ?_ _) | (with_reducible refine Kd.C_drew ?_))) | (repeat (first | exact (Kd.C_below HR189.out HB.out) | (with_reducible refine Kd.C_alloc ?_ _) | (with_reducible refine Kd.C_drewN ?_ _) | (with_reducible refine Kd.C_drew ?_))))
               (case aB => exact (by repeat (first | (with_reducible first | exact HB.out | apply zG | apply zE | apply zF | refine zH ?_ GE177.out) | exact HB.out)))
               (case aF => exact (fun _ _ => trivial))
               (case aO => exact (by (with_reducible repeat (first | apply Kd.R_alloc | apply Kd.R_drewN | apply Kd.R_drew)); exact HO188.out))
               (case aS => exact (below_size (by repeat (first | (with_reducible first | exact HB.out | apply zG | apply zE | apply zF | refine zH ?_ GE177.out) | exact HB.out))))
               (case aL => have := LMc22.out; have hlx_ := (show (l0.drop 20).length = (l0.length - 20) from List.length_drop); omega)
               intro v191 w51 ho hb hg hat
               rw [← Ny190.out] at ho
               have n0_ := Aside0.mk (blk_grown (g := gb177) (o := .cells #[.int .i64 0, .int .i64 0, .int .i64 0, .int .i64 0, .slice none 0 0] 24 (0, 0)) (by (with_reducible repeat (first | refine zI ?_ _ | refine zJ ?_ | refine zK ?_ _)); exact BK177.out) hg (Kd.R_ne HO188.out BK177.out (by decide)))
               have n1_ := Aside0.mk (hb)
               have n2_ := Aside0.mk (ho)
               clear BK177
               clear HB
               clear HO188
               have BK177 := n0_
               have HB := n1_
               have HO192 := n2_
               clear n0_ n1_ n2_
               clear ho hb hg hat
               obtain ⟨Ao52, co52, eo52⟩ := Kd.R_slice HO192.out
               (first | subst eo52 | (injection eo52 with f1_ f2_ f3_; have f4_ := f1_.symm; have f5_ := f3_.symm; clear f1_ f2_ f3_; subst f4_; subst f5_))
               refine hK.out _ _ ⟨((HB.out.cell (zD w _ hw182_0)).trans hw182_0), ((HB.out.cell (zD w _ hw183_0)).trans hw183_0)⟩ (fun hHeld => ?_)
               clear hK K
               refine norm_ (a' := ?_) ?_ ?_
               rotate_left
               ·
                show Act.put _ (some 54) _ = _
                simp only [Act.put, zA, zB, zC, i64_w, i32_w]
                rfl
               refine pure_ (i := 16) (N := some 55) (v := ?_) (a' := ?_) #[true, true, true, true, true, true, true, true, true, true, true, true, true, true, true, true, true, false, false] rfl rfl (any_of HT_.out (by kernel_rfl)) (fun _ _ _ h => h) (Or.inl ⟨by rfl, ?_⟩) ?_ ?_
               rotate_left
               ·
                intro w'
                go_simp
                with_reducible rfl
               rotate_left
               ·
                simp only [Act.put, zA, zB, zC, i64_w, i32_w]
                rfl
               exact norm_ (by first | (simp only [putAll, Act.put, zA, zB, zC]; done) | (simp only [putAll, Act.put, zA, zB, zC]; rfl)) (hJ9_11_12_15 (v187, .slice Ao52 y190.length co52) _ ⟨hHeld, (by (with_reducible repeat (first | apply Kd.R_alloc | apply Kd.R_drewN | apply Kd.R_drew)); exact HO192.out), (by (with_reducible repeat (first | refine zI ?_ _ | refine zJ ?_ | refine zK ?_ _)); exact BK177.out), (by repeat (first | (with_reducible first | exact HB.out | apply zG | apply zE | apply zF | refine zH ?_ GE177.out) | exact HB.out))⟩)
              ·
               skip
               refine box_step ?hg (N := 4) ?hd (cs := #[.int .i64 0, .int .i64 0, .int .i64 0, .int .i64 0, .slice none 0 0]) (t := 24) ?hr ?_; (case hd => rfl); (case hg => rfl); (case hr => first | (go_simp; done) | (go_simp; rfl))
               intro gb193 hg w51 hbox hb
               have n0_ := Aside0.mk (Kd.R_below (by (with_reducible repeat (first | apply Kd.R_alloc | apply Kd.R_drewN | apply Kd.R_drew)); exact HO188.out) hb)
               have n1_ := Aside0.mk (blk_below (g := gb177) (o := .cells #[.int .i64 0, .int .i64 0, .int .i64 0, .int .i64 0, .slice none 0 0] 24 (0, 0)) (by (with_reducible repeat (first | refine zI ?_ _ | refine zJ ?_ | refine zK ?_ _)); exact BK177.out) hb)
               have n2_ := Aside0.mk (below_step (by repeat (first | (with_reducible first | exact HB.out | apply zG | apply zE | apply zF | refine zH ?_ GE177.out) | exact HB.out)) hb)
               have n3_ := Aside0.mk (hbox)
               have n4_ := Aside0.mk ((by rw [hg]; exact (below_size (by repeat (first | (with_reducible first | exact HB.out | apply zG | apply zE | apply zF | refine zH ?_ GE177.out) | exact HB.out))) : w.heap.size ≤ gb193))
               have n5_ := Aside0.mk ((by rw [hg]; exact (below_size (by repeat (first | (with_reducible first | exact HB.out | apply zG | apply zE | apply zF | refine zH ?_ GE177.out) | exact HB.out))) : w.heap.size ≤ gb193))
               have n6_ := Aside0.mk ((by rw [hg]; exact zM (blk_lt (g := gb177) (o := .cells #[.int .i64 0, .int .i64 0, .int .i64 0, .int .i64 0, .slice none 0 0] 24 (0, 0)) (by (with_reducible repeat (first | refine zI ?_ _ | refine zJ ?_ | refine zK ?_ _)); exact BK177.out)) : gb177 ≠ gb193))
               have n7_ := Aside0.mk ((by rw [hg]; exact Nat.ne_of_gt (blk_lt (g := gb177) (o := .cells #[.int .i64 0, .int .i64 0, .int .i64 0, .int .i64 0, .slice none 0 0] 24 (0, 0)) (by (with_reducible repeat (first | refine zI ?_ _ | refine zJ ?_ | refine zK ?_ _)); exact BK177.out)) : gb193 ≠ gb177))
               clear HO188
               clear BK177
               clear HB
               have HO188 := n0_
               have BK177 := n1_
               have HB := n2_
               have BK193 := n3_
               have GW193 := n4_
               have GE193 := n5_
               have NB177_193 := n6_
               have NB193_177 := n7_
               clear n0_ n1_ n2_ n3_ n4_ n5_ n6_ n7_
               clear hb hbox hg
               refine hK.out _ _ ⟨((HB.out.cell (zD w _ hw182_0)).trans hw182_0), ((HB.out.cell (zD w _ hw183_0)).trans hw183_0)⟩ (fun hHeld => ?_)
               clear hK K
               refine norm_ (a' := ?_) ?_ ?_
               rotate_left
               ·
                show Act.put _ (some 4) _ = _
                simp only [Act.put, zA, zB, zC, i64_w, i32_w]
                rfl
               exact norm_ (by first | (simp only [putAll, Act.put, zA, zB, zC]; done) | (simp only [putAll, Act.put, zA, zB, zC]; rfl)) (hJ9_11_12_17 (v187, gb193) _ ⟨hHeld, (by (with_reducible repeat (first | apply Kd.R_alloc | apply Kd.R_drewN | apply Kd.R_drew)); exact HO188.out), (by (with_reducible repeat (first | refine zI ?_ _ | refine zJ ?_ | refine zK ?_ _)); exact BK177.out), (by (with_reducible repeat (first | refine zI ?_ _ | refine zJ ?_ | refine zK ?_ _)); exact BK193.out), GW193.out, GE193.out, NB177_193.out, NB193_177.out, (by repeat (first | (with_reducible first | exact HB.out | apply zG | apply zE | apply zF | refine zH ?_ GE177.out | refine zH ?_ GE193.out) | exact HB.out))⟩)
            ·
             skip
             rintro ⟨v187, gb193⟩ w51 ⟨hS_, h0_, h1_, h2_, h3_, h4_, h5_, h6_, h7_⟩
             have n0_ : Aside0 (Kd.R (Kd.int .u8) 5 w51 w.heap.size (fun _ => True) v187 y186) := ⟨h0_⟩
             have n1_ : Aside0 (w51.heap[gb177]? = some (.cells #[.int .i64 0, .int .i64 0, .int .i64 0, .int .i64 0, .slice none 0 0] 24 (0, 0))) := ⟨h1_⟩
             have n2_ : Aside0 (w51.heap[gb193]? = some (.cells #[.int .i64 0, .int .i64 0, .int .i64 0, .int .i64 0, .slice none 0 0] 24 (0, 0))) := ⟨h2_⟩
             have n3_ : Aside0 (w.heap.size ≤ gb193) := ⟨h3_⟩
             have n4_ : Aside0 (w.heap.size ≤ gb193) := ⟨h4_⟩
             have n5_ : Aside0 (gb177 ≠ gb193) := ⟨h5_⟩
             have n6_ : Aside0 (gb193 ≠ gb177) := ⟨h6_⟩
             have n7_ : Aside0 (Below w.heap.size w w51) := ⟨h7_⟩
             clear BK177
             clear HB
             clear h0_ h1_ h2_ h3_ h4_ h5_ h6_ h7_
             have HO188 := n0_
             have BK177 := n1_
             have BK193 := n2_
             have GW193 := n3_
             have GE193 := n4_
             have NB177_193 := n5_
             have NB193_177 := n6_
             have HB := n7_
             clear n0_ n1_ n2_ n3_ n4_ n5_ n6_ n7_
             have hHeld : w51.cell? ⟨ad182.block, ad182.off + 8, none⟩ = some (.int .u8 (rd l0 8)) ∧ w51.cell? ⟨ad182.block, ad182.off + 9, none⟩ = some (.int .u8 (rd l0 9)) := hS_
             refine norm_ (a' := ?_) ?_ ?_
             rotate_left
             ·
              simp only [putAll, Act.put, zA, zB, zC]
              rfl
             refine one_ (i := 15) (N := some 54) #[true, true, true, true, true, true, true, true, true, true, true, true, true, true, true, true, false, true, false] rfl rfl (one_of HT_.out (by kernel_rfl)) (by decide) (fun K hK => ?_)
             refine Kd.R_append_rows_step (Kd.int .u8) (w0 := w) w.heap.size (by rfl) (.tmp 51) (.tmp 53) 22 5 (.int .u8 0) 1 rfl Tryd.underlying22 info5 rfl (by decide) (by omega) v187 y186 (l0.drop 20) _ _ _ (fun _ => True) (fun _ => False) rfl rfl ?aO ?aR (fun _ _ h => h) (fun _ h => h.elim) ?aF ?aB ?aS ?aL ?_
             (case aR => first | (rw [← show (l0.drop 20).length = (l0.length - 20) from List.length_drop]; repeat (first | exact (Kd.C_below HR189.out HB.out) | (with_reducible refine Kd.C_alloc ?_ _) | (with_reducible refine Kd.C_drewN ?_ _) | (with_reducible refine Kd.C_drew ?_))) | (repeat (first | exact (Kd.C_below HR189.out HB.out) | (with_reducible refine Kd.C_alloc ?_ _) | (with_reducible refine Kd.C_drewN ?_ _) | (with_reducible refine Kd.C_drew ?_))))
             (case aB => exact (by repeat (first | (with_reducible first | exact HB.out | apply zG | apply zE | apply zF | refine zH ?_ GE177.out | refine zH ?_ GE193.out) | exact HB.out)))
             (case aF => exact (fun _ _ => trivial))
             (case aO => exact (by (with_reducible repeat (first | apply Kd.R_alloc | apply Kd.R_drewN | apply Kd.R_drew)); exact HO188.out))
             (case aS => exact (below_size (by repeat (first | (with_reducible first | exact HB.out | apply zG | apply zE | apply zF | refine zH ?_ GE177.out | refine zH ?_ GE193.out) | exact HB.out))))
             (case aL => have := LMc22.out; have hlx_ := (show (l0.drop 20).length = (l0.length - 20) from List.length_drop); omega)
             intro v191 w52 ho hb hg hat
             rw [← Ny190.out] at ho
             have n0_ := Aside0.mk (blk_grown (g := gb177) (o := .cells #[.int .i64 0, .int .i64 0, .int .i64 0, .int .i64 0, .slice none 0 0] 24 (0, 0)) (by (with_reducible repeat (first | refine zI ?_ _ | refine zJ ?_ | refine zK ?_ _)); exact BK177.out) hg (Kd.R_ne HO188.out BK177.out (by decide)))
             have n1_ := Aside0.mk (blk_grown (g := gb193) (o := .cells #[.int .i64 0, .int .i64 0, .int .i64 0, .int .i64 0, .slice none 0 0] 24 (0, 0)) (by (with_reducible repeat (first | refine zI ?_ _ | refine zJ ?_ | refine zK ?_ _)); exact BK193.out) hg (Kd.R_ne HO188.out BK193.out (by decide)))
             have n2_ := Aside0.mk (hb)
             have n3_ := Aside0.mk (ho)
             clear BK177
             clear BK193
             clear HB
             clear HO188
             have BK177 := n0_
             have BK193 := n1_
             have HB := n2_
             have HO192 := n3_
             clear n0_ n1_ n2_ n3_
             clear ho hb hg hat
             obtain ⟨Ao53, co53, eo53⟩ := Kd.R_slice HO192.out
             (first | subst eo53 | (injection eo53 with f1_ f2_ f3_; have f4_ := f1_.symm; have f5_ := f3_.symm; clear f1_ f2_ f3_; subst f4_; subst f5_))
             refine hK.out _ _ ⟨((HB.out.cell (zD w _ hw182_0)).trans hw182_0), ((HB.out.cell (zD w _ hw183_0)).trans hw183_0)⟩ (fun hHeld => ?_)
             clear hK K
             refine norm_ (a' := ?_) ?_ ?_
             rotate_left
             ·
              show Act.put _ (some 54) _ = _
              simp only [Act.put, zA, zB, zC, i64_w, i32_w]
              rfl
             refine pure_ (i := 16) (N := some 55) (v := ?_) (a' := ?_) #[true, true, true, true, true, true, true, true, true, true, true, true, true, true, true, true, true, true, false] rfl rfl (any_of HT_.out (by kernel_rfl)) (fun _ _ _ h => h) (Or.inl ⟨by rfl, ?_⟩) ?_ ?_
             rotate_left
             ·
              intro w'
              go_simp
              with_reducible rfl
             rotate_left
             ·
              simp only [Act.put, zA, zB, zC, i64_w, i32_w]
              rfl
             exact norm_ (by first | (simp only [putAll, Act.put, zA, zB, zC]; done) | (simp only [putAll, Act.put, zA, zB, zC]; rfl)) (hJ9_11_12_15_17 (v187, .slice Ao53 y190.length co53, gb193) _ ⟨hHeld, (by (with_reducible repeat (first | apply Kd.R_alloc | apply Kd.R_drewN | apply Kd.R_drew)); exact HO192.out), (by (with_reducible repeat (first | refine zI ?_ _ | refine zJ ?_ | refine zK ?_ _)); exact BK177.out), (by (with_reducible repeat (first | refine zI ?_ _ | refine zJ ?_ | refine zK ?_ _)); exact BK193.out), GW193.out, GE193.out, NB177_193.out, NB193_177.out, (by repeat (first | (with_reducible first | exact HB.out | apply zG | apply zE | apply zF | refine zH ?_ GE177.out | refine zH ?_ GE193.out) | exact HB.out))⟩)
           ·
            skip
            rintro ⟨v187, v191⟩ w52 ⟨hS_, h0_, h1_, h2_⟩
            have n0_ : Aside0 (Kd.R (Kd.int .u8) 5 w52 w.heap.size (fun _ => True) v191 y190) := ⟨h0_⟩
            have n1_ : Aside0 (w52.heap[gb177]? = some (.cells #[.int .i64 0, .int .i64 0, .int .i64 0, .int .i64 0, .slice none 0 0] 24 (0, 0))) := ⟨h1_⟩
            have n2_ : Aside0 (Below w.heap.size w w52) := ⟨h2_⟩
            clear BK177
            clear HB
            clear h0_ h1_ h2_
            have HO192 := n0_
            have BK177 := n1_
            have HB := n2_
            clear n0_ n1_ n2_
            have hHeld : w52.cell? ⟨ad182.block, ad182.off + 8, none⟩ = some (.int .u8 (rd l0 8)) ∧ w52.cell? ⟨ad182.block, ad182.off + 9, none⟩ = some (.int .u8 (rd l0 9)) := hS_
            obtain ⟨Ao53, co53, eo53⟩ := Kd.R_slice HO192.out
            (first | subst eo53 | (injection eo53 with f1_ f2_ f3_; have f4_ := f1_.symm; have f5_ := f3_.symm; clear f1_ f2_ f3_; subst f4_; subst f5_))
            refine norm_ (a' := ?_) ?_ ?_
            rotate_left
            ·
             simp only [putAll, Act.put, zA, zB, zC]
             rfl
            refine one_ (i := 17) (N := some 4) #[true, true, true, true, true, true, true, true, true, true, true, true, true, true, true, true, true, true, false] rfl rfl (one_of HT_.out (by kernel_rfl)) (by decide) (fun K hK => ?_)
            refine box_step ?hg (N := 4) ?hd (cs := #[.int .i64 0, .int .i64 0, .int .i64 0, .int .i64 0, .slice none 0 0]) (t := 24) ?hr ?_; (case hd => rfl); (case hg => rfl); (case hr => first | (go_simp; done) | (go_simp; rfl))
            intro gb193 hg w54 hbox hb
            have n0_ := Aside0.mk (Kd.R_below (by (with_reducible repeat (first | apply Kd.R_alloc | apply Kd.R_drewN | apply Kd.R_drew)); exact HO192.out) hb)
            have n1_ := Aside0.mk (blk_below (g := gb177) (o := .cells #[.int .i64 0, .int .i64 0, .int .i64 0, .int .i64 0, .slice none 0 0] 24 (0, 0)) (by (with_reducible repeat (first | refine zI ?_ _ | refine zJ ?_ | refine zK ?_ _)); exact BK177.out) hb)
            have n2_ := Aside0.mk (below_step (by repeat (first | (with_reducible first | exact HB.out | apply zG | apply zE | apply zF | refine zH ?_ GE177.out) | exact HB.out)) hb)
            have n3_ := Aside0.mk (hbox)
            have n4_ := Aside0.mk ((by rw [hg]; exact (below_size (by repeat (first | (with_reducible first | exact HB.out | apply zG | apply zE | apply zF | refine zH ?_ GE177.out) | exact HB.out))) : w.heap.size ≤ gb193))
            have n5_ := Aside0.mk ((by rw [hg]; exact (below_size (by repeat (first | (with_reducible first | exact HB.out | apply zG | apply zE | apply zF | refine zH ?_ GE177.out) | exact HB.out))) : w.heap.size ≤ gb193))
            have n6_ := Aside0.mk ((by rw [hg]; exact zM (blk_lt (g := gb177) (o := .cells #[.int .i64 0, .int .i64 0, .int .i64 0, .int .i64 0, .slice none 0 0] 24 (0, 0)) (by (with_reducible repeat (first | refine zI ?_ _ | refine zJ ?_ | refine zK ?_ _)); exact BK177.out)) : gb177 ≠ gb193))
            have n7_ := Aside0.mk ((by rw [hg]; exact Nat.ne_of_gt (blk_lt (g := gb177) (o := .cells #[.int .i64 0, .int .i64 0, .int .i64 0, .int .i64 0, .slice none 0 0] 24 (0, 0)) (by (with_reducible repeat (first | refine zI ?_ _ | refine zJ ?_ | refine zK ?_ _)); exact BK177.out)) : gb193 ≠ gb177))
            clear HO192
            clear BK177
            clear HB
            have HO192 := n0_
            have BK177 := n1_
            have HB := n2_
            have BK193 := n3_
            have GW193 := n4_
            have GE193 := n5_
            have NB177_193 := n6_
            have NB193_177 := n7_
            clear n0_ n1_ n2_ n3_ n4_ n5_ n6_ n7_
            clear hb hbox hg
            refine hK.out _ _ ⟨((HB.out.cell (zD w _ hw182_0)).trans hw182_0), ((HB.out.cell (zD w _ hw183_0)).trans hw183_0)⟩ (fun hHeld => ?_)
            clear hK K
            refine norm_ (a' := ?_) ?_ ?_
            rotate_left
            ·
             show Act.put _ (some 4) _ = _
             simp only [Act.put, zA, zB, zC, i64_w, i32_w]
             rfl
            exact norm_ (by first | (simp only [putAll, Act.put, zA, zB, zC]; done) | (simp only [putAll, Act.put, zA, zB, zC]; rfl)) (hJ9_11_12_15_17 (v187, .slice Ao53 y190.length co53, gb193) _ ⟨hHeld, (by (with_reducible repeat (first | apply Kd.R_alloc | apply Kd.R_drewN | apply Kd.R_drew)); exact HO192.out), (by (with_reducible repeat (first | refine zI ?_ _ | refine zJ ?_ | refine zK ?_ _)); exact BK177.out), (by (with_reducible repeat (first | refine zI ?_ _ | refine zJ ?_ | refine zK ?_ _)); exact BK193.out), GW193.out, GE193.out, NB177_193.out, NB193_177.out, (by repeat (first | (with_reducible first | exact HB.out | apply zG | apply zE | apply zF | refine zH ?_ GE177.out | refine zH ?_ GE193.out) | exact HB.out))⟩)
          rintro ⟨v187, v191, gb193⟩ w53 ⟨hS_, h0_, h1_, h2_, h3_, h4_, h5_, h6_, h7_⟩
          have n0_ : Aside0 (Kd.R (Kd.int .u8) 5 w53 w.heap.size (fun _ => True) v191 y190) := ⟨h0_⟩
          have n1_ : Aside0 (w53.heap[gb177]? = some (.cells #[.int .i64 0, .int .i64 0, .int .i64 0, .int .i64 0, .slice none 0 0] 24 (0, 0))) := ⟨h1_⟩
          have n2_ : Aside0 (w53.heap[gb193]? = some (.cells #[.int .i64 0, .int .i64 0, .int .i64 0, .int .i64 0, .slice none 0 0] 24 (0, 0))) := ⟨h2_⟩
          have n3_ : Aside0 (w.heap.size ≤ gb193) := ⟨h3_⟩
          have n4_ : Aside0 (w.heap.size ≤ gb193) := ⟨h4_⟩
          have n5_ : Aside0 (gb177 ≠ gb193) := ⟨h5_⟩
          have n6_ : Aside0 (gb193 ≠ gb177) := ⟨h6_⟩
          have n7_ : Aside0 (Below w.heap.size w w53) := ⟨h7_⟩
          clear BK177
          clear HB
          clear h0_ h1_ h2_ h3_ h4_ h5_ h6_ h7_
          have HO192 := n0_
          have BK177 := n1_
          have BK193 := n2_
          have GW193 := n3_
          have GE193 := n4_
          have NB177_193 := n5_
          have NB193_177 := n6_
          have HB := n7_
          clear n0_ n1_ n2_ n3_ n4_ n5_ n6_ n7_
          have hHeld : w53.cell? ⟨ad182.block, ad182.off + 8, none⟩ = some (.int .u8 (rd l0 8)) ∧ w53.cell? ⟨ad182.block, ad182.off + 9, none⟩ = some (.int .u8 (rd l0 9)) := hS_
          obtain ⟨Ao54, co54, eo54⟩ := Kd.R_slice HO192.out
          (first | subst eo54 | (injection eo54 with f1_ f2_ f3_; have f4_ := f1_.symm; have f5_ := f3_.symm; clear f1_ f2_ f3_; subst f4_; subst f5_))
          refine norm_ (a' := ?_) ?_ ?_
          rotate_left
          ·
           simp only [putAll, Act.put, zA, zB, zC]
           rfl
          refine one_ (i := 18) (N := none) #[true, true, true, true, true, true, true, true, true, true, true, true, true, true, true, true, true, true, true] rfl rfl (one_of HT_.out (by kernel_rfl)) (by decide) (fun K hK => ?_)
          have hs55 : w53.cell? ⟨gb193, 0, none⟩ = some (.int .i64 0) := (blk_cell BK193.out 0).trans rfl
          have hfs55 := blk_frozen BK193.out 0
          have hns55_0 := NB177_193.out
          have hms55_0 := NB193_177.out
          have hs56 : w53.cell? ⟨gb193, 1, none⟩ = some (.int .i64 0) := (blk_cell BK193.out 1).trans rfl
          have hfs56 := blk_frozen BK193.out 1
          have hns56_0 := NB177_193.out
          have hms56_0 := NB193_177.out
          have hs57 : w53.cell? ⟨gb193, 2, none⟩ = some (.int .i64 0) := (blk_cell BK193.out 2).trans rfl
          have hfs57 := blk_frozen BK193.out 2
          have hns57_0 := NB177_193.out
          have hms57_0 := NB193_177.out
          have hs58 : w53.cell? ⟨gb193, 3, none⟩ = some (.int .i64 0) := (blk_cell BK193.out 3).trans rfl
          have hfs58 := blk_frozen BK193.out 3
          have hns58_0 := NB177_193.out
          have hms58_0 := NB193_177.out
          have hs59 : w53.cell? ⟨gb193, 4, none⟩ = some (.slice none 0 0) := (blk_cell BK193.out 4).trans rfl
          have hfs59 := blk_frozen BK193.out 4
          have hns59_0 := NB177_193.out
          have hms59_0 := NB193_177.out
          refine skip_ (w1 := ?_) (by rfl) rfl ?_ ?_
          rotate_left
          ·
           go_simp
           rfl
          refine hK.out _ _ ⟨((zO (p := ⟨gb193, _, none⟩) (by first | exact zM (zL (by have := zD _ _ hw182_0; first | rwa [zN] at this | exact this) GW193.out) | (rw [zN]; exact zM (zL (by have := zD _ _ hw182_0; first | rwa [zN] at this | exact this) GW193.out)) | (show (Addr.add _ _).block ≠ _; rw [zN]; exact zM (zL (by have := zD _ _ hw182_0; first | rwa [zN] at this | exact this) GW193.out)) | (dsimp only; exact zM (zL (by have := zD _ _ hw182_0; first | rwa [zN] at this | exact this) GW193.out))) _).trans (((zO (p := ⟨gb193, _, none⟩) (by first | exact zM (zL (by have := zD _ _ hw182_0; first | rwa [zN] at this | exact this) GW193.out) | (rw [zN]; exact zM (zL (by have := zD _ _ hw182_0; first | rwa [zN] at this | exact this) GW193.out)) | (show (Addr.add _ _).block ≠ _; rw [zN]; exact zM (zL (by have := zD _ _ hw182_0; first | rwa [zN] at this | exact this) GW193.out)) | (dsimp only; exact zM (zL (by have := zD _ _ hw182_0; first | rwa [zN] at this | exact this) GW193.out))) _).trans (((zO (p := ⟨gb193, _, none⟩) (by first | exact zM (zL (by have := zD _ _ hw182_0; first | rwa [zN] at this | exact this) GW193.out) | (rw [zN]; exact zM (zL (by have := zD _ _ hw182_0; first | rwa [zN] at this | exact this) GW193.out)) | (show (Addr.add _ _).block ≠ _; rw [zN]; exact zM (zL (by have := zD _ _ hw182_0; first | rwa [zN] at this | exact this) GW193.out)) | (dsimp only; exact zM (zL (by have := zD _ _ hw182_0; first | rwa [zN] at this | exact this) GW193.out))) _).trans (((zO (p := ⟨gb193, _, none⟩) (by first | exact zM (zL (by have := zD _ _ hw182_0; first | rwa [zN] at this | exact this) GW193.out) | (rw [zN]; exact zM (zL (by have := zD _ _ hw182_0; first | rwa [zN] at this | exact this) GW193.out)) | (show (Addr.add _ _).block ≠ _; rw [zN]; exact zM (zL (by have := zD _ _ hw182_0; first | rwa [zN] at this | exact this) GW193.out)) | (dsimp only; exact zM (zL (by have := zD _ _ hw182_0; first | rwa [zN] at this | exact this) GW193.out))) _).trans (((zO (p := ⟨gb193, _, none⟩) (by first | exact zM (zL (by have := zD _ _ hw182_0; first | rwa [zN] at this | exact this) GW193.out) | (rw [zN]; exact zM (zL (by have := zD _ _ hw182_0; first | rwa [zN] at this | exact this) GW193.out)) | (show (Addr.add _ _).block ≠ _; rw [zN]; exact zM (zL (by have := zD _ _ hw182_0; first | rwa [zN] at this | exact this) GW193.out)) | (dsimp only; exact zM (zL (by have := zD _ _ hw182_0; first | rwa [zN] at this | exact this) GW193.out))) _).trans (hHeld.1)))))))))), ((zO (p := ⟨gb193, _, none⟩) (by first | exact zM (zL (by have := zD _ _ hw183_0; first | rwa [zN] at this | exact this) GW193.out) | (rw [zN]; exact zM (zL (by have := zD _ _ hw183_0; first | rwa [zN] at this | exact this) GW193.out)) | (show (Addr.add _ _).block ≠ _; rw [zN]; exact zM (zL (by have := zD _ _ hw183_0; first | rwa [zN] at this | exact this) GW193.out)) | (dsimp only; exact zM (zL (by have := zD _ _ hw183_0; first | rwa [zN] at this | exact this) GW193.out))) _).trans (((zO (p := ⟨gb193, _, none⟩) (by first | exact zM (zL (by have := zD _ _ hw183_0; first | rwa [zN] at this | exact this) GW193.out) | (rw [zN]; exact zM (zL (by have := zD _ _ hw183_0; first | rwa [zN] at this | exact this) GW193.out)) | (show (Addr.add _ _).block ≠ _; rw [zN]; exact zM (zL (by have := zD _ _ hw183_0; first | rwa [zN] at this | exact this) GW193.out)) | (dsimp only; exact zM (zL (by have := zD _ _ hw183_0; first | rwa [zN] at this | exact this) GW193.out))) _).trans (((zO (p := ⟨gb193, _, none⟩) (by first | exact zM (zL (by have := zD _ _ hw183_0; first | rwa [zN] at this | exact this) GW193.out) | (rw [zN]; exact zM (zL (by have := zD _ _ hw183_0; first | rwa [zN] at this | exact this) GW193.out)) | (show (Addr.add _ _).block ≠ _; rw [zN]; exact zM (zL (by have := zD _ _ hw183_0; first | rwa [zN] at this | exact this) GW193.out)) | (dsimp only; exact zM (zL (by have := zD _ _ hw183_0; first | rwa [zN] at this | exact this) GW193.out))) _).trans (((zO (p := ⟨gb193, _, none⟩) (by first | exact zM (zL (by have := zD _ _ hw183_0; first | rwa [zN] at this | exact this) GW193.out) | (rw [zN]; exact zM (zL (by have := zD _ _ hw183_0; first | rwa [zN] at this | exact this) GW193.out)) | (show (Addr.add _ _).block ≠ _; rw [zN]; exact zM (zL (by have := zD _ _ hw183_0; first | rwa [zN] at this | exact this) GW193.out)) | (dsimp only; exact zM (zL (by have := zD _ _ hw183_0; first | rwa [zN] at this | exact this) GW193.out))) _).trans (((zO (p := ⟨gb193, _, none⟩) (by first | exact zM (zL (by have := zD _ _ hw183_0; first | rwa [zN] at this | exact this) GW193.out) | (rw [zN]; exact zM (zL (by have := zD _ _ hw183_0; first | rwa [zN] at this | exact this) GW193.out)) | (show (Addr.add _ _).block ≠ _; rw [zN]; exact zM (zL (by have := zD _ _ hw183_0; first | rwa [zN] at this | exact this) GW193.out)) | (dsimp only; exact zM (zL (by have := zD _ _ hw183_0; first | rwa [zN] at this | exact this) GW193.out))) _).trans (hHeld.2))))))))))⟩ (fun hHeld => ?_)
          clear hK K
          refine done_ (done_of HT_.out (by kernel_rfl)) ?_
          have hnb60 := NB193_177.out
          have hnc60 := NB177_193.out
          have hcz61_0 : w53.cell? ⟨gb193, 0, none⟩ = some (.int .i64 0) := (blk_cell BK193.out 0).trans rfl
          have hcz61_1 : w53.cell? ⟨gb193, 1, none⟩ = some (.int .i64 0) := (blk_cell BK193.out 1).trans rfl
          have hcz61_2 : w53.cell? ⟨gb193, 2, none⟩ = some (.int .i64 0) := (blk_cell BK193.out 2).trans rfl
          have hcz61_3 : w53.cell? ⟨gb193, 3, none⟩ = some (.int .i64 0) := (blk_cell BK193.out 3).trans rfl
          have hcz61_4 : w53.cell? ⟨gb193, 4, none⟩ = some (.slice none 0 0) := (blk_cell BK193.out 4).trans rfl
          have hfz61_0 := blk_frozen BK193.out 0
          have hfz61_1 := blk_frozen BK193.out 1
          have hfz61_2 := blk_frozen BK193.out 2
          have hfz61_3 := blk_frozen BK193.out 3
          have hfz61_4 := blk_frozen BK193.out 4
          try go_wp2_with (first | ((with_reducible refine gate_callee (f := 10) rfl ?_); refine goesL_ (some 58) rfl rfl Tryd.func10 (by kernel_rfl) rfl #[.agg #[.int .i64 (wrap64 (rd l0 8)), .int .i64 (wrap64 (rd l0 9)), .int .i64 t184, .int .i64 t185, .slice Ao54 y190.length co54]] rfl (by (try simp only [List.map_toArray, List.map_cons, List.map_nil]); first | done | rfl | (simp only [List.length_drop, List.length_take]; rfl)) ?_; (with_reducible refine (plenumref1_PutIp.calls kj4 (wrap64 (rd l0 8)) (wrap64 (rd l0 9)) t184 t185 _ _ y190 t194 t197 _ ?side1 ?side2 A23.out).mono ?_); (case side1 => refine (Kd.R_reads' (e := 5) (base := w.heap.size) (ok := fun k_ => True) (n := y190.length) (c := co54) ?_).2.2; exact (by (with_reducible repeat (first | apply Kd.R_alloc | apply Kd.R_drewN | apply Kd.R_drew)); exact (Kd.R_mono (Kd.R_far (p := ⟨gb193, 4, none⟩) (Kd.R_far (p := ⟨gb193, 3, none⟩) (Kd.R_far (p := ⟨gb193, 2, none⟩) (Kd.R_far (p := ⟨gb193, 1, none⟩) (Kd.R_far (p := ⟨gb193, 0, none⟩) (Kd.R_types HO192.out BK193.out (by decide)) (fun _ hk => hk.2) (.int .i64 (wrap64 (rd l0 8)))) (fun _ hk => hk.2) (.int .i64 (wrap64 (rd l0 9)))) (fun _ hk => hk.2) (.int .i64 t184)) (fun _ hk => hk.2) (.int .i64 t185)) (fun _ hk => hk.2) (.slice Ao54 y190.length co54)) (fun _ h_ => h_.1)))); (case side2 => exact (Kd.R_reads' HO192.out).2.1); rintro e w62 ⟨v195, rfl, ho0, hb⟩; refine ⟨_, rfl, ?_⟩; have n0_ := Aside0.mk (Kd.R_elder' (by (with_reducible repeat (first | apply Kd.R_alloc | apply Kd.R_drewN | apply Kd.R_drew)); exact (Kd.R_mono (Kd.R_far (p := ⟨gb193, 4, none⟩) (Kd.R_far (p := ⟨gb193, 3, none⟩) (Kd.R_far (p := ⟨gb193, 2, none⟩) (Kd.R_far (p := ⟨gb193, 1, none⟩) (Kd.R_far (p := ⟨gb193, 0, none⟩) (Kd.R_types HO192.out BK193.out (by decide)) (fun _ hk => hk.2) (.int .i64 (wrap64 (rd l0 8)))) (fun _ hk => hk.2) (.int .i64 (wrap64 (rd l0 9)))) (fun _ hk => hk.2) (.int .i64 t184)) (fun _ hk => hk.2) (.int .i64 t185)) (fun _ hk => hk.2) (.slice Ao54 y190.length co54)) (fun _ h_ => h_.1))) (Kd.R_base ho0) hb); have n1_ := Aside0.mk (Kd.R_lower (Kd.R_new' ho0 (Kd.R_lt (by (with_reducible repeat (first | apply Kd.R_alloc | apply Kd.R_drewN | apply Kd.R_drew)); exact (Kd.R_mono (Kd.R_far (p := ⟨gb193, 4, none⟩) (Kd.R_far (p := ⟨gb193, 3, none⟩) (Kd.R_far (p := ⟨gb193, 2, none⟩) (Kd.R_far (p := ⟨gb193, 1, none⟩) (Kd.R_far (p := ⟨gb193, 0, none⟩) (Kd.R_types HO192.out BK193.out (by decide)) (fun _ hk => hk.2) (.int .i64 (wrap64 (rd l0 8)))) (fun _ hk => hk.2) (.int .i64 (wrap64 (rd l0 9)))) (fun _ hk => hk.2) (.int .i64 t184)) (fun _ hk => hk.2) (.int .i64 t185)) (fun _ hk => hk.2) (.slice Ao54 y190.length co54)) (fun _ h_ => h_.1))))) (below_size (by repeat (first | (with_reducible first | exact HB.out | apply zG | apply zE | apply zF | refine zH ?_ GE177.out | refine zH ?_ GE193.out) | exact HB.out)))); have n2_ := Aside0.mk (blk_below (g := gb177) (o := .cells #[.int .i64 0, .int .i64 0, .int .i64 0, .int .i64 0, .slice none 0 0] 24 (0, 0)) (by (with_reducible repeat (first | refine zI ?_ _ | refine zJ ?_ | refine zK ?_ _)); refine blk_far ?_ NB177_193.out _; (with_reducible repeat (first | refine zI ?_ _ | refine zJ ?_ | refine zK ?_ _)); refine blk_far ?_ NB177_193.out _; (with_reducible repeat (first | refine zI ?_ _ | refine zJ ?_ | refine zK ?_ _)); refine blk_far ?_ NB177_193.out _; (with_reducible repeat (first | refine zI ?_ _ | refine zJ ?_ | refine zK ?_ _)); refine blk_far ?_ NB177_193.out _; (with_reducible repeat (first | refine zI ?_ _ | refine zJ ?_ | refine zK ?_ _)); refine blk_far ?_ NB177_193.out _; (with_reducible repeat (first | refine zI ?_ _ | refine zJ ?_ | refine zK ?_ _)); exact BK177.out) hb); have n3_ := Aside0.mk (blk_below (g := gb193) (o := .cells #[.int .i64 (wrap64 (rd l0 8)), .int .i64 (wrap64 (rd l0 9)), .int .i64 t184, .int .i64 t185, .slice Ao54 y190.length co54] 24 (0, 0)) (by (with_reducible repeat (first | refine zI ?_ _ | refine zJ ?_ | refine zK ?_ _)); refine blk_put (cs := #[.int .i64 (wrap64 (rd l0 8)), .int .i64 (wrap64 (rd l0 9)), .int .i64 t184, .int .i64 t185, .slice none 0 0]) ?_ 4 _ rfl; (with_reducible repeat (first | refine zI ?_ _ | refine zJ ?_ | refine zK ?_ _)); refine blk_put (cs := #[.int .i64 (wrap64 (rd l0 8)), .int .i64 (wrap64 (rd l0 9)), .int .i64 t184, .int .i64 0, .slice none 0 0]) ?_ 3 _ rfl; (with_reducible repeat (first | refine zI ?_ _ | refine zJ ?_ | refine zK ?_ _)); refine blk_put (cs := #[.int .i64 (wrap64 (rd l0 8)), .int .i64 (wrap64 (rd l0 9)), .int .i64 0, .int .i64 0, .slice none 0 0]) ?_ 2 _ rfl; (with_reducible repeat (first | refine zI ?_ _ | refine zJ ?_ | refine zK ?_ _)); refine blk_put (cs := #[.int .i64 (wrap64 (rd l0 8)), .int .i64 0, .int .i64 0, .int .i64 0, .slice none 0 0]) ?_ 1 _ rfl; (with_reducible repeat (first | refine zI ?_ _ | refine zJ ?_ | refine zK ?_ _)); refine blk_put (cs := #[.int .i64 0, .int .i64 0, .int .i64 0, .int .i64 0, .slice none 0 0]) ?_ 0 _ rfl; (with_reducible repeat (first | refine zI ?_ _ | refine zJ ?_ | refine zK ?_ _)); exact BK193.out) hb); have n4_ := Aside0.mk (below_step (by repeat (first | (with_reducible first | exact HB.out | apply zG | apply zE | apply zF | refine zH ?_ GE177.out | refine zH ?_ GE193.out) | exact HB.out)) hb); clear HO192; clear BK177; clear BK193; clear HB; have HO192 := n0_; have HO196 := n1_; have BK177 := n2_; have BK193 := n3_; have HB := n4_; clear n0_ n1_ n2_ n3_ n4_; (try clear hb); (try clear hb2); (try clear hk); (try clear hi); (try clear ho0); have hcv63 := own_string (P := Tryd.prog) Tryd.underlying22 Tryd.underlying5 Tryd.underlying9 (Kd.own_of_R HO196.out); have hcv64 := Kd.C_string (P := Tryd.prog) (A := (some ad182)) (c := c0) Tryd.underlying22 Tryd.underlying5 Tryd.underlying9 (Kd.C_below HR0.out HB.out); have hcz65_0 : w62.cell? ⟨gb177, 0, none⟩ = some (.int .i64 0) := (blk_cell BK177.out 0).trans rfl; have hcz65_1 : w62.cell? ⟨gb177, 1, none⟩ = some (.int .i64 0) := (blk_cell BK177.out 1).trans rfl; have hcz65_2 : w62.cell? ⟨gb177, 2, none⟩ = some (.int .i64 0) := (blk_cell BK177.out 2).trans rfl; have hcz65_3 : w62.cell? ⟨gb177, 3, none⟩ = some (.int .i64 0) := (blk_cell BK177.out 3).trans rfl; have hcz65_4 : w62.cell? ⟨gb177, 4, none⟩ = some (.slice none 0 0) := (blk_cell BK177.out 4).trans rfl; have hfz65_0 := blk_frozen BK177.out 0; have hfz65_1 := blk_frozen BK177.out 1; have hfz65_2 := blk_frozen BK177.out 2; have hfz65_3 := blk_frozen BK177.out 3; have hfz65_4 := blk_frozen BK177.out 4))
          refine bodyPost_ret (results_ct rfl _ _ gb177 24 #[.int .i64 0, .int .i64 0, .int .i64 0, .int .i64 0, .slice none 0 0] (0, 0) _ rfl (by (with_reducible repeat (first | refine zI ?_ _ | refine zJ ?_ | refine zK ?_ _)); refine blk_put (cs := #[.int .i64 0, .int .i64 0, .int .i64 0, .int .i64 0, .slice none 0 0]) ?_ 4 _ rfl; (with_reducible repeat (first | refine zI ?_ _ | refine zJ ?_ | refine zK ?_ _)); refine blk_put (cs := #[.int .i64 0, .int .i64 0, .int .i64 0, .int .i64 0, .slice none 0 0]) ?_ 3 _ rfl; (with_reducible repeat (first | refine zI ?_ _ | refine zJ ?_ | refine zK ?_ _)); refine blk_put (cs := #[.int .i64 0, .int .i64 0, .int .i64 0, .int .i64 0, .slice none 0 0]) ?_ 2 _ rfl; (with_reducible repeat (first | refine zI ?_ _ | refine zJ ?_ | refine zK ?_ _)); refine blk_put (cs := #[.int .i64 0, .int .i64 0, .int .i64 0, .int .i64 0, .slice none 0 0]) ?_ 1 _ rfl; (with_reducible repeat (first | refine zI ?_ _ | refine zJ ?_ | refine zK ?_ _)); refine blk_put (cs := #[.int .i64 0, .int .i64 0, .int .i64 0, .int .i64 0, .slice none 0 0]) ?_ 0 _ rfl; (with_reducible repeat (first | refine zI ?_ _ | refine zJ ?_ | refine zK ?_ _)); exact BK177.out) Tryd.underlying24 rfl (by kernel_rfl)) rfl ?_
          exact ⟨_, by first | rfl | (simp [errW_none, errW_some] <;> rfl) | (simp [*, errW_none, errW_some] <;> rfl), by first | exact Kd.R_nil _ _ _ _ _ | exact Kd.N_nil _ _ _ _ _ | exact Kd.V_nil _ _ _ _ _ | exact Kd.Q_nil _ _ _ _ _ | exact Kd.S_nil _ _ _ _ _, by repeat (first | (with_reducible first | exact HB.out | apply zG | apply zE | apply zF | refine zH ?_ GE177.out | refine zH ?_ GE193.out) | exact HB.out)⟩
        ·
         rw [if_neg c22] at H
         exact absurd H (by simp)
       ·
        rw [if_neg c21] at H
        exact absurd H (by simp)
      ·
       rw [if_neg c18] at H
       exact absurd H (by simp)
     ·
      rw [if_neg c17] at H
      exact absurd H (by simp)


end
end Go.Proofs.YtdocfafokfajeaaDoor.PIp
