/- What a wrapped fault is told as, how it is made, and a slice's clone. Conditions: the variable errors.errorType holds the handle of the type error. -/
import Derived.Test.YtdocfafokfajeaaDoorAs1
import Derived.Test.YtdocfafokfajeaaDoorLeaf0
import Derived.WalkSpells
namespace Go.Proofs.YtdocfafokfajeaaDoor.PIp
open Go.RowKit Go.Proofs.YtdocfafokfajeaaDoorW.PrintWords Go.Proofs.YtdocfafokfajeaaDoorW.PrintLast Go.Proofs.YtdocfafokfajeaaDoorW.PrintMore
set_option linter.unusedVariables false
set_option linter.unusedSimpArgs false

/-- The variable errors.errorType holds the handle of the type error. -/
def Handle (w : World) : Prop := w.cell? ⟨0, 0, none⟩ = some (.iface 78 (.agg #[.pointer (some ⟨1, 47, none⟩)]))

theorem Handle.lt {w : World} (h : Handle w) : 0 < w.heap.size := by
  rcases Nat.eq_zero_or_pos w.heap.size with h0 | h1
  · simp [Handle, World.cell?, h0] at h
  · exact h1

theorem Handle.below {w w' : World} (h : Handle w) (hb : Below w.heap.size w w') : Handle w' := by
  unfold Handle
  rw [hb.cell (p := ⟨0, 0, none⟩) h.lt]
  exact h

theorem told_nil (w : World) : Calls Tryd.prog 22 #[.nilIface] w fun e w' => e = .returned (.int .i64 0) ∧ Below w.heap.size w w' := by
  go_enter Tryd.func22, Tryd.ntmps22
  go_wp2_with (go_at_call 30; refine (as_nil _ _).mono ?_; rintro e w' ⟨rfl, rfl⟩)
  go_ret
  exact ⟨rfl, (Below.refl _ _).alloc (Nat.le_refl _) _⟩

theorem cell_lt {w : World} {a : Addr} {v : Value} (h : w.cell? a = some v) : a.block < w.heap.size := by
  rcases Nat.lt_or_ge a.block w.heap.size with h1 | h1
  · exact h1
  · simp [World.cell?, Array.getElem?_eq_none h1] at h

set_option maxHeartbeats 8000000 in
theorem told_wrap (bw bf : Nat) (c : Int) (w : World) (hg : Handle w) (hw : w.cell? ⟨bw, 1, none⟩ = some (.iface 57 (.pointer (some ⟨bf, 0, none⟩)))) (hc : w.cell? ⟨bf, 0, none⟩ = some (.int .i64 c)) :
    Calls Tryd.prog 22 #[.iface 62 (.pointer (some ⟨bw, 0, none⟩))] w fun e w' => e = .returned (.int .i64 c) ∧ Below w.heap.size w w' := by
  have hlt := hg.lt
  have hbw : bw < w.heap.size := cell_lt hw
  have hbf : bf < w.heap.size := cell_lt hc
  have hgA : (w.alloc (.cells #[.pointer none] 57)).cell? ⟨0, 0, none⟩ = some (.iface 78 (.agg #[.pointer (some ⟨1, 47, none⟩)])) := by
    rw [World.cell?_alloc_lt _ _ ⟨0, 0, none⟩ hlt]; exact hg
  have hwA : (w.alloc (.cells #[.pointer none] 57)).cell? ⟨bw, 1, none⟩ = some (.iface 57 (.pointer (some ⟨bf, 0, none⟩))) := by
    rw [World.cell?_alloc_lt _ _ ⟨bw, 1, none⟩ hbw]; exact hw
  have htA : (w.alloc (.cells #[.pointer none] 57)).cell? ⟨w.heap.size, 0, none⟩ = some (.pointer none) := by simp
  have hfA : (w.alloc (.cells #[.pointer none] 57)).frozen? ⟨w.heap.size, 0, none⟩ = false := by simp
  have hcB : ((((((w.alloc (.cells #[.pointer none] 57)).alloc (.cells #[.pointer (some ⟨w.heap.size, 0, none⟩)] 59)).alloc (.cells #[.pointer (some ⟨1, 59, none⟩), .pointer (some ⟨w.heap.size + 1, 0, none⟩), .int .u64 150] 68)).alloc (.cells #[.pointer (some ⟨1, 59, none⟩), .pointer (some ⟨w.heap.size + 1, 0, none⟩), .int .u64 150] 68)).alloc (.cells #[.pointer (some ⟨bf, 0, none⟩)] 57)).setCell ⟨w.heap.size, 0, none⟩ (.pointer (some ⟨bf, 0, none⟩))).cell? ⟨bf, 0, none⟩ = some (.int .i64 c) := by
    rw [World.cell?_setCell_other _ _ _ _ (by intro h; injection h; omega), World.cell?_alloc_lt _ _ ⟨bf, 0, none⟩ (by simp; omega), World.cell?_alloc_lt _ _ ⟨bf, 0, none⟩ (by simp; omega), World.cell?_alloc_lt _ _ ⟨bf, 0, none⟩ (by simp; omega), World.cell?_alloc_lt _ _ ⟨bf, 0, none⟩ (by simp; omega), World.cell?_alloc_lt _ _ ⟨bf, 0, none⟩ hbf]
    exact hc
  have htB : ((((((w.alloc (.cells #[.pointer none] 57)).alloc (.cells #[.pointer (some ⟨w.heap.size, 0, none⟩)] 59)).alloc (.cells #[.pointer (some ⟨1, 59, none⟩), .pointer (some ⟨w.heap.size + 1, 0, none⟩), .int .u64 150] 68)).alloc (.cells #[.pointer (some ⟨1, 59, none⟩), .pointer (some ⟨w.heap.size + 1, 0, none⟩), .int .u64 150] 68)).alloc (.cells #[.pointer (some ⟨bf, 0, none⟩)] 57)).setCell ⟨w.heap.size, 0, none⟩ (.pointer (some ⟨bf, 0, none⟩))).cell? ⟨w.heap.size, 0, none⟩ = some (.pointer (some ⟨bf, 0, none⟩)) := by
    refine World.cell?_setCell_same _ _ _ (u := .pointer none) ?_
    rw [World.cell?_alloc_lt _ _ ⟨w.heap.size, 0, none⟩ (by simp; omega), World.cell?_alloc_lt _ _ ⟨w.heap.size, 0, none⟩ (by simp; omega), World.cell?_alloc_lt _ _ ⟨w.heap.size, 0, none⟩ (by simp; omega), World.cell?_alloc_lt _ _ ⟨w.heap.size, 0, none⟩ (by simp)]
    exact htA
  have hBel : Below w.heap.size w ((((((w.alloc (.cells #[.pointer none] 57)).alloc (.cells #[.pointer (some ⟨w.heap.size, 0, none⟩)] 59)).alloc (.cells #[.pointer (some ⟨1, 59, none⟩), .pointer (some ⟨w.heap.size + 1, 0, none⟩), .int .u64 150] 68)).alloc (.cells #[.pointer (some ⟨1, 59, none⟩), .pointer (some ⟨w.heap.size + 1, 0, none⟩), .int .u64 150] 68)).alloc (.cells #[.pointer (some ⟨bf, 0, none⟩)] 57)).setCell ⟨w.heap.size, 0, none⟩ (.pointer (some ⟨bf, 0, none⟩))) :=
    ((((((Below.refl _ _).alloc (Nat.le_refl _) _).alloc (by simp) _).alloc (by simp; omega) _).alloc (by simp; omega) _).alloc (by simp; omega) _).setCell (by simp) _
  have hA := as_wrap bw ⟨bf, 0, none⟩ ⟨w.heap.size, 0, none⟩ (.pointer none) _ hgA hwA htA hfA
  have hz : (w.alloc (.cells #[.pointer none] 57)).heap.size = w.heap.size + 1 := by simp
  rw [hz] at hA
  revert hA hcB htB hBel
  generalize ((((((w.alloc (.cells #[.pointer none] 57)).alloc (.cells #[.pointer (some ⟨w.heap.size, 0, none⟩)] 59)).alloc (.cells #[.pointer (some ⟨1, 59, none⟩), .pointer (some ⟨w.heap.size + 1, 0, none⟩), .int .u64 150] 68)).alloc (.cells #[.pointer (some ⟨1, 59, none⟩), .pointer (some ⟨w.heap.size + 1, 0, none⟩), .int .u64 150] 68)).alloc (.cells #[.pointer (some ⟨bf, 0, none⟩)] 57)).setCell ⟨w.heap.size, 0, none⟩ (.pointer (some ⟨bf, 0, none⟩))) = W
  intro hcB htB hBel hA
  have HA := Aside0.mk hA
  clear hA hz hfA hgA hwA htA hg hw hc hlt
  go_enter Tryd.func22, Tryd.ntmps22
  go_wp2_with (go_at_call 30; refine HA.out.mono ?_; rintro e w' ⟨rfl, rfl⟩)
  go_ret
  exact ⟨rfl, hBel⟩

/-- bad(what, e). -/
theorem bad_any (s : ByteArray) (c : Int) (w : World) :
    Calls Tryd.prog 27 #[.string s, .int .i64 c] w fun e w' => e = .returned (.iface 62 (.pointer (some ⟨w.heap.size + 1, 0, none⟩))) ∧ w' = (w.alloc (.cells #[.int .i64 c] 61)).alloc (.cells #[.string s, .iface 57 (.pointer (some ⟨w.heap.size, 0, none⟩))] 64) := by
  go_enter Tryd.func27, Tryd.ntmps27
  go_wp2
  go_ret
  exact ⟨rfl, rfl⟩

/-- slices.Clone of bytes. -/
theorem clone_any (A0 : Option Addr) (c0 : Nat) (l0 : List Int) (w : World) (hr0 : Kd.C (Kd.int .u8) w A0 l0.length l0) (hl : l0.length < 140737488355328) :
    Calls Tryd.prog 29 #[.slice A0 l0.length c0] w fun e w' => ∃ v0_ : Value, e = .returned v0_ ∧ Kd.R (Kd.int .u8) 5 w' w.heap.size (fun _ => True) v0_ l0 ∧ Below w.heap.size w w' := by
  rcases A0 with _ | x
  · have h0 : l0.length = 0 := by
      rcases Nat.eq_zero_or_pos l0.length with h0 | h0
      · exact h0
      · obtain ⟨ad, h, _⟩ := hr0.2.2 h0
        cases h
    obtain rfl : l0 = [] := List.eq_nil_of_length_eq_zero h0
    have he := fun (w : World) => Lib.run_eql_slice_nil (P := Tryd.prog) w 22 5 none 0 c0 0 0 Tryd.underlying22
    clear hr0 hl h0
    go_enter Tryd.func29, Tryd.ntmps29
    go_wp2
    go_ret
    exact ⟨_, rfl, Kd.R_nil _ _ _ _ _, Below.refl _ _⟩
  · have he := fun (w : World) => Lib.run_eql_slice_nil (P := Tryd.prog) w 22 5 (some x) l0.length c0 0 0 Tryd.underlying22
    have HR0 := Aside0.mk hr0
    have HL := Aside0.mk hl
    have HB := Aside0.mk (Below.refl w.heap.size w)
    clear hr0 hl
    go_enter Tryd.func29, Tryd.ntmps29
    go_wp2_with (first
      | ((with_reducible refine gate_dst (N := 5) rfl ?_); refine Kd.R_lit (Kd.int .u8) _ 5 ?hg (N := 5) ?hd (xs := ([] : List Int)) (inner := []) (ok := fun _ => True) (okp := fun _ => True) ?hr ?hp (fun _ hk => hk) trivial (Below.refl _ _) (Nat.le_refl _) (by simp) ?_; (case hd => rfl); (case hg => rfl); (case hr => first | (go_simp; done) | (go_simp; rfl)); (case hp => exact (Reps.none _ _)); intro v105 w7 ho8 hb hg_ hnew_; clear hg_ hnew_; have HO106 := Aside0.mk (Kd.R_lower ho8 (below_size HB.out)); have n1_ := Aside0.mk (below_step HB.out hb); clear HB; have HB := n1_; clear n1_; clear hb ho8)
      | ((with_reducible refine gate_builtin (b := .append) (xs := #[.tmp 5, .tmp 6]) rfl ?_); at_builtin; refine Kd.R_append_rows (Kd.int .u8) (w0 := w) w.heap.size rfl (.tmp 5) (.tmp 6) 22 5 (.int .u8 0) 1 rfl Tryd.underlying22 info5 rfl (by decide) (by omega) v105 [] l0 _ _ _ (fun _ => True) (fun _ => False) rfl rfl ?aO ?aR (fun _ _ h => h) (fun _ h => h.elim) ?aF ?aB ?aS ?aL ?_; (case aR => exact (Kd.C_below HR0.out HB.out)); (case aB => exact HB.out); (case aF => exact (fun _ _ => trivial)); (case aO => exact HO106.out); (case aS => exact (below_size HB.out)); (case aL => have := HL.out; simp; omega); intro v108 w9 ho hb hg hat; have HO109 := Aside0.mk ho; clear HB HO106; have HB := Aside0.mk hb; clear ho hb hg hat))
    go_ret
    exact ⟨_, rfl, HO109.out, HB.out⟩

end Go.Proofs.YtdocfafokfajeaaDoor.PIp
