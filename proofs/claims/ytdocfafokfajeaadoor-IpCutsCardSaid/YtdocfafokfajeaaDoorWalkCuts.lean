/- IpCuts: a datagram that is cut, or has more, is none; more than may be carried is refused: the plain law, and the walk at arguments that came in. -/
import Derived.Test.YtdocfafokfajeaaDoorFCuts
import Derived.Test.YtdocfafokfajeaaDoorRowBase
namespace Go.Proofs.YtdocfafokfajeaaDoor.PIp
open Go.RowKit Go.Proofs.YtdocfafokfajeaaDoorW.PrintWords Go.Proofs.YtdocfafokfajeaaDoorW.PrintLast Go.Proofs.YtdocfafokfajeaaDoorW.PrintMore
open Go.Proofs.YtdocfafokfajeaaDoor.Inet
set_option linter.unusedVariables false
set_option linter.unusedSimpArgs false

/-- What ip.Get takes says its own length. -/
theorem get_len {l : List Int} {t p s d : Int} {m : List Int} (hb : Bytes l) (h : ip_Get.f l = some (t, p, s, d, m, 0)) : 20 ≤ l.length ∧ be2 l 2 = (l.length : Int) := by
  unfold ip_Get.f at h
  rw [if_pos (all_bytes hb)] at h
  by_cases h20 : l.length < 20
  · rw [if_pos h20] at h
    simp at h
  · rw [if_neg h20] at h
    by_cases hf : rd l 0 = 69 ∧ rd l 1 = 0 ∧ be4 l 4 = 0 ∧ be2 l 2 = (l.length : Int) ∧ ¬ be2 l 2 > 1044
    · exact ⟨by omega, hf.2.2.2.1⟩
    · rw [if_neg hf] at h
      simp at h

theorem rd_take (l : List Int) (j i : Nat) (h : i < j) : rd (l.take j) (i : Int) = rd l (i : Int) := by
  simp [rd, List.getD_eq_getElem?_getD, h]

/-- A datagram that is cut is none. -/
theorem get_cut {B : List Int} {t p s d : Int} {m : List Int} (hb : Bytes B) (h : ip_Get.f B = some (t, p, s, d, m, 0)) (j : Nat) (hj : j < B.length) :
    ∃ x1 x2 x3 x4 x5 c, ip_Get.f (B.take j) = some (x1, x2, x3, x4, x5, c) ∧ c ≠ 0 := by
  have hbt : Bytes (B.take j) := fun x hx => hb x (List.mem_of_mem_take hx)
  obtain ⟨x1, x2, x3, x4, x5, c, hg⟩ := get_some hbt
  refine ⟨x1, x2, x3, x4, x5, c, hg, fun e => ?_⟩
  subst e
  obtain ⟨h20, h2⟩ := get_len hb h
  obtain ⟨k20, k2⟩ := get_len hbt hg
  have hl : (B.take j).length = j := by rw [List.length_take]; omega
  have e2 : be2 (B.take j) 2 = be2 B 2 := by
    unfold be2
    have r2 := rd_take B j 2 (by omega)
    have r3 := rd_take B j 3 (by omega)
    simp only [Int.reduceAdd]
    rw [show ((2 : Nat) : Int) = 2 from rfl] at r2
    rw [show ((3 : Nat) : Int) = 3 from rfl] at r3
    rw [r2, r3]
  omega

/-- A datagram that has more is none. -/
theorem get_more {B : List Int} {t p s d : Int} {m : List Int} (hb : Bytes B) (h : ip_Get.f B = some (t, p, s, d, m, 0)) (a : List Int) (ha : Bytes a) (h0 : a.length ≠ 0) :
    ip_Get.f (B ++ a) = some (0, 0, 0, 0, [], 3) := by
  obtain ⟨h20, h2⟩ := get_len hb h
  have hba : Bytes (B ++ a) := by
    intro x hx
    rcases List.mem_append.mp hx with h | h
    · exact hb x h
    · exact ha x h
  have hl : (B ++ a).length = B.length + a.length := List.length_append
  have e2 : be2 (B ++ a) 2 = be2 B 2 := by
    unfold be2
    have r2 := rd_append B a 2 (by omega)
    have r3 := rd_append B a 3 (by omega)
    simp only [Int.reduceAdd]
    rw [show ((2 : Nat) : Int) = 2 from rfl] at r2
    rw [show ((3 : Nat) : Int) = 3 from rfl] at r3
    rw [r2, r3]
  unfold ip_Get.f
  rw [if_pos (all_bytes hba), if_neg (by omega), if_neg]
  rintro ⟨-, -, -, e, -⟩
  omega

theorem u16_of {a : Int} (h : (Lit.int .u16 a).wf = true) : 0 ≤ a ∧ a < 65536 := by
  simp [Lit.wf, IntKind.min, IntKind.max, IntKind.bits, IntKind.signed] at h
  omega

theorem walk_cuts (t p s d : Int) (a0 : Option Addr) (len0 cap0 : Nat) (z0 : List Int) {w' : World} (w0 : RowB.IsRow .u8 w' a0 len0 cap0 z0) (a1 : Int) (w1 : (Lit.int .u16 a1).wf = true) (a2 : Option Addr) (len2 cap2 : Nat) (z2 : List Int) {w'' : World} (w2 : RowB.IsRow .u8 w'' a2 len2 cap2 z2) (w : World) (hg : Handle w) (e : w' = w := by rfl) (e' : w'' = w := by rfl) :
    Calls Tryd.prog 7 #[.agg #[.int .i64 t, .int .i64 p, .int .i64 s, .int .i64 d, .slice a0 len0 cap0], .int .u16 a1, .slice a2 len2 cap2] w fun e w' => e = .returned (.bool true) ∧ Below w.heap.size w w' := by
  subst e
  subst e'
  obtain ⟨l, rfl, hr0, hm0, hw0, hc0⟩ := ReadsInt.ofRowC w0
  obtain ⟨m, rfl, hr2, hm2, hw2, hc2⟩ := ReadsInt.ofRowC w2
  have hb := bytes_of hw0
  have hbm := bytes_of hw2
  obtain ⟨h0, h1⟩ := u16_of w1
  obtain ⟨k, rfl⟩ := Int.eq_ofNat_of_zero_le h0
  have hC0 := Kd.C_of_reads (d := (0 : Int)) (h1 := fun _ => rfl) hr0
  have hC2 := Kd.C_of_reads (d := (0 : Int)) (h1 := fun _ => rfl) hr2
  by_cases hh : 1024 < l.length ∨ m.length = 0 ∨ 500 < m.length
  · exact cuts_awake t p s d _ _ l _ _ _ m _ hh
  · have g1 : ¬ 1024 < l.length := fun h => hh (.inl h)
    have g2 : m.length ≠ 0 := fun h => hh (.inr (.inl h))
    have g3 : ¬ 500 < m.length := fun h => hh (.inr (.inr h))
    by_cases hf : fits t p s d = true
    · have hP := put_fits hf (l := l) (by omega)
      have hG := get_put hf (l := l) (by omega) hb
      have hB := put_bytes hf hb (headSum t p s d l.length)
      have hlen : (head t p s d l.length (headSum t p s d l.length) ++ l).length = 20 + l.length := by simp [head_length]
      generalize head t p s d l.length (headSum t p s d l.length) ++ l = B at *
      have hj : k % B.length < B.length := Nat.mod_lt _ (by omega)
      obtain ⟨x1, x2, x3, x4, x5, c1, hx, hc⟩ := get_cut hB hG (k % B.length) hj
      have hy := get_more hB hG m hbm g2
      have e2 : Int.tmod (k : Int) (B.length : Int) = ((k % B.length : Nat) : Int) := by
        rw [Int.tmod_eq_emod_of_nonneg (by omega)]; exact (Int.natCast_emod k B.length).symm
      have e3 : Int.tmod (k : Int) 100 = ((k % 100 : Nat) : Int) := by
        rw [Int.tmod_eq_emod_of_nonneg (by omega)]; exact (Int.natCast_emod k 100).symm
      exact cuts_yes t p s d _ _ l k _ _ m B x1 x2 x3 x4 x5 c1 0 0 0 0 [] _ hC0 hc0 hC2 hc2 hg hf g1 g2 g3 (by omega) (k % B.length) (k % 100) e2 hj e3 (Nat.mod_lt _ (by decide)) hP (by omega) (by omega) hx hc hy
    · exact cuts_not t p s d _ _ l _ _ _ m _ hC0 hc0 g1 g2 g3 (put_not hf)

end Go.Proofs.YtdocfafokfajeaaDoor.PIp
