/- IpTurned: a datagram of whose first twenty bytes one is turned is none: the law in closed form answers true. -/
import Derived.Test.YtdocfafokfajeaaDoorLaw0
import Derived.Test.YtdocfafokfajeaaDoorFTurned
namespace Go.Proofs.YtdocfafokfajeaaDoor.PIp
open Go.RowKit Go.Proofs.YtdocfafokfajeaaDoorW.PrintWords Go.Proofs.YtdocfafokfajeaaDoorW.PrintLast Go.Proofs.YtdocfafokfajeaaDoorW.PrintMore
open Go.Proofs.YtdocfafokfajeaaDoor.Inet
set_option linter.unusedVariables false
set_option linter.unusedSimpArgs false

/-- Bytes that are read as a datagram bear their own sum. -/
theorem get_sum {l : List Int} {t p s d : Int} {m : List Int} (hb : Bytes l) (h : ip_Get.f l = some (t, p, s, d, m, 0)) : 20 ≤ l.length ∧ sumOf l = be2 l 10 := by
  unfold ip_Get.f at h
  rw [if_pos (all_bytes hb)] at h
  by_cases h20 : l.length < 20
  · rw [if_pos h20] at h
    simp at h
  · rw [if_neg h20] at h
    by_cases hf : rd l 0 = 69 ∧ rd l 1 = 0 ∧ be4 l 4 = 0 ∧ be2 l 2 = (l.length : Int) ∧ ¬ be2 l 2 > 1044
    · rw [if_pos hf] at h
      by_cases hs : sumOf l = be2 l 10
      · exact ⟨by omega, hs⟩
      · rw [if_neg hs] at h
        simp at h
    · rw [if_neg hf] at h
      simp at h

theorem getD_set (l : List Int) (i j : Nat) (v : Int) (hi : i < l.length) : (l.set i v).getD j 0 = if i = j then v else l.getD j 0 := by
  simp only [List.getD_eq_getElem?_getD, List.getElem?_set]
  by_cases h : i = j
  · subst h; simp [hi]
  · simp [h]

theorem rd_set (l : List Int) (i j : Nat) (v : Int) (hi : i < l.length) : rd (l.set i v) (j : Int) = if i = j then v else rd l (j : Int) := by
  unfold rd
  rw [Int.toNat_natCast]
  exact getD_set l i j v hi

theorem bytes_set {l : List Int} {i : Nat} {v : Int} (h : Bytes l) (h0 : 0 ≤ v) (h1 : v < 256) : Bytes (l.set i v) := by
  intro x hx
  rcases List.mem_or_eq_of_mem_set hx with h2 | h2
  · exact h x h2
  · subst h2; exact ⟨h0, h1⟩

/-- Two sums whose words are apart by less than 65535, but are not the same, have other rests. -/
theorem rep_apart {a b : Int} (ha : 0 ≤ a) (hb : 0 ≤ b) (hne : a ≠ b) (h1 : a - b < 65535) (h2 : b - a < 65535) : rep a ≠ rep b := by
  unfold rep
  split <;> split <;> omega

/-- One of the first twenty bytes turned: the sum does not stand. -/
theorem turned_sum {l : List Int} (hb : Bytes l) (hl : 20 ≤ l.length) (hs : sumOf l = be2 l 10) (i : Nat) (hi : i < 20) (v : Int) (h0 : 0 ≤ v) (h1 : v < 256) (hv : v ≠ rd l (i : Int)) :
    sumOf (l.set i v) ≠ be2 (l.set i v) 10 := by
  have e10 := rd_set l i 10 v (by omega)
  have e11 := rd_set l i 11 v (by omega)
  have hT : (l.take 20).length = 20 := by rw [List.length_take]; omega
  have hset : (l.set i v).take 20 = (l.take 20).set i v := by rw [List.take_set]
  have hTb : Bytes (l.take 20) := fun x hx => hb x (List.mem_of_mem_take hx)
  have hget : (l.take 20).getD i 0 = rd l (i : Int) := by
    unfold rd
    rw [Int.toNat_natCast, List.getD_eq_getElem?_getD, List.getD_eq_getElem?_getD, List.getElem?_take_of_lt hi]
  have hb2 : be2 (l.set i v) 10 = rd (l.set i v) ((10 : Nat) : Int) * 256 + rd (l.set i v) ((11 : Nat) : Int) := rfl
  have hb1 : be2 l 10 = rd l ((10 : Nat) : Int) * 256 + rd l ((11 : Nat) : Int) := rfl
  have r := rd_byte hb (i : Int)
  unfold sumOf at hs ⊢
  rw [hset]
  by_cases h10 : i = 10
  · subst h10
    rw [if_pos rfl] at e10
    rw [if_neg (by decide)] at e11
    rw [List.set_set, hs, hb2, hb1, e10, e11]
    omega
  · by_cases h11 : i = 11
    · subst h11
      rw [if_neg (by decide)] at e10
      rw [if_pos rfl] at e11
      rw [List.set_comm _ _ (by decide : (11 : Nat) ≠ 10), List.set_set, hs, hb2, hb1, e10, e11]
      omega
    · rw [if_neg h10] at e10
      rw [if_neg h11] at e11
      rw [hb2, e10, e11, ← hb1, ← hs]
      rw [List.set_comm _ _ h10, List.set_comm _ _ h11]
      have hT0 : Bytes (((l.take 20).set 10 0).set 11 0) := bytes_set (bytes_set hTb (by omega) (by omega)) (by omega) (by omega)
      have hlen : (((l.take 20).set 10 0).set 11 0).length = 20 := by simp; omega
      have hg0 : (((l.take 20).set 10 0).set 11 0).getD i 0 = rd l (i : Int) := by
        rw [getD_set _ _ _ _ (by simp; omega), if_neg (fun e => h11 e.symm), getD_set _ _ _ _ (by omega), if_neg (fun e => h10 e.symm)]
        exact hget
      have hw := words_set _ true i v (by rw [hlen]; exact hi)
      rw [hg0] at hw
      have n1 := words_nonneg _ true hT0
      have n2 := words_nonneg _ true (bytes_set (i := i) hT0 h0 h1)
      generalize words true (((l.take 20).set 10 0).set 11 0) = W1 at *
      generalize words true ((((l.take 20).set 10 0).set 11 0).set i v) = W2 at *
      have hne : rep W2 ≠ rep W1 := by
        cases hp : decide (i % 2 = 0) with
        | true =>
          rw [hp] at hw
          simp only [if_true] at hw
          exact rep_apart n2 n1 (by omega) (by omega) (by omega)
        | false =>
          rw [hp] at hw
          simp only [Bool.false_eq_true, if_false] at hw
          exact rep_apart n2 n1 (by omega) (by omega) (by omega)
      omega

/-- A byte with some signs turned is another byte. -/
theorem xor_byte (x y : Int) (hx : 0 ≤ x ∧ x < 256) (hy : 0 ≤ y ∧ y < 256) (hne : y ≠ 0) : 0 ≤ bits .xor .u8 x y ∧ bits .xor .u8 x y < 256 ∧ bits .xor .u8 x y ≠ x := by
  obtain ⟨a, rfl⟩ := Int.eq_ofNat_of_zero_le hx.1
  obtain ⟨b, rfl⟩ := Int.eq_ofNat_of_zero_le hy.1
  have ha : a < 256 := by omega
  have hb : b < 256 := by omega
  have h : bits .xor .u8 (a : Int) (b : Int) = ((a ^^^ b : Nat) : Int) := by
    have ha' : a % 2 ^ 8 = a := Nat.mod_eq_of_lt ha
    have hb' : b % 2 ^ 8 = b := Nat.mod_eq_of_lt hb
    have hlt : a ^^^ b < 2 ^ 8 := Nat.xor_lt_two_pow ha hb
    have hx : (BitVec.ofNat 8 a ^^^ BitVec.ofNat 8 b).toNat = a ^^^ b := by
      rw [BitVec.toNat_xor, BitVec.toNat_ofNat, BitVec.toNat_ofNat, ha', hb']
    have hbit : bits .xor .u8 (a : Int) (b : Int) = IntKind.u8.wrap ((BitVec.ofNat 8 a ^^^ BitVec.ofNat 8 b).toNat : Int) := by
      simp only [bits, BitVec.ofInt_natCast]
      rfl
    rw [hbit, hx]
    exact wraps_u8 _ (Int.natCast_nonneg _) (by exact_mod_cast hlt)
  rw [h]
  have hlt : a ^^^ b < 2 ^ 8 := Nat.xor_lt_two_pow ha hb
  refine ⟨by omega, by omega, fun e => hne ?_⟩
  have e1 : a ^^^ b = a := by exact_mod_cast e
  have e2 : b = 0 := by
    have := congrArg (a ^^^ ·) e1
    simpa [← Nat.xor_assoc] using this
  omega

theorem pure_turned (t p s d : Int) (l : List Int) (a1 a2 : Int) (hb : Bytes l) (h1 : 0 ≤ a1 ∧ a1 < 256) (h2 : 0 ≤ a2 ∧ a2 < 256) : plenumlaw3_IpTurned.f 2 t p s d l a1 a2 = some true := by
  have hyes : ∀ (k : Nat) x1 x2 a b c d e, plenumlaw3_IpTurned.j0 (k + 1) x1 x2 true a b c d e = some true := by
    intro k x1 x2 a b c d e
    simp only [plenumlaw3_IpTurned.j0]
    rw [if_pos trivial, awake_true]; rfl
  unfold plenumlaw3_IpTurned.f
  by_cases hl : (l.length : Int) > 1024
  · rw [if_pos hl]; exact hyes 1 _ _ _ _ _ _ _
  · rw [if_neg hl]
    by_cases hz : a2 = 0
    · subst hz
      exact hyes 1 _ _ _ _ _ _ _
    · have e2 : (a2 == 0) = false := beq_eq_false_iff_ne.mpr hz
      rw [e2]
      simp only [plenumlaw3_IpTurned.j0]
      rw [if_neg (by simp)]
      by_cases hf : fits t p s d = true
      · rw [put_fits hf (by omega)]
        simp only [Option.bind_some, plenumlaw1_Num.f]
        rw [if_pos trivial]
        have hlen : (head t p s d l.length (headSum t p s d l.length) ++ l).length = 20 + l.length := by simp [head_length]
        have hd : decide (((head t p s d l.length (headSum t p s d l.length) ++ l).length : Int) < 20) = false := decide_eq_false (by omega)
        rw [hd]
        have hg := get_put hf (by omega) hb
        have hby : Bytes (head t p s d l.length (headSum t p s d l.length) ++ l) := by
          have hq := of_decide_eq_true hf
          intro x hx
          rcases List.mem_append.mp hx with h | h
          · exact head_bytes t p s d l.length _ hq.1 hq.2.1 hq.2.2.1 hq.2.2.2.1 x h
          · exact hb x h
        obtain ⟨h20, hs⟩ := get_sum hby hg
        generalize head t p s d l.length (headSum t p s d l.length) ++ l = B at *
        simp only [plenumlaw3_IpTurned.j1, Option.bind_some, plenumlaw1_Num.f]
        have hw : wrap64 a1 = a1 := by unfold wrap64; omega
        have ht : Int.tmod a1 20 = a1 % 20 := Int.tmod_eq_emod_of_nonneg (by omega)
        rw [if_neg (by simp), hw, ht, if_pos (by omega), if_pos (by omega)]
        obtain ⟨i, hi⟩ : ∃ i : Nat, (i : Int) = a1 % 20 := ⟨(a1 % 20).toNat, by omega⟩
        rw [← hi, Int.toNat_natCast]
        obtain ⟨x0, x1, x2⟩ := xor_byte (rd B i) a2 (rd_byte hby _) h2 hz
        have hby' := bytes_set (i := i) hby x0 x1
        obtain ⟨t', p', s', d', m', c', hg'⟩ := get_some hby'
        rw [hg']
        simp only [Option.bind_some]
        have hc : c' ≠ 0 := by
          intro e
          subst e
          exact turned_sum hby h20 hs i (by omega) _ x0 x1 x2 (get_sum hby' hg').2
        rw [if_neg hc, awake_true]; rfl
      · have hp : ip_Put.f t p s d l = some ([], 1) := by unfold ip_Put.f; rw [if_neg hf]
        rw [hp]
        simp only [Option.bind_some, plenumlaw1_Num.f]
        rw [if_neg (by decide)]
        simp only [plenumlaw3_IpTurned.j1, Option.bind_some, plenumlaw1_Num.f]
        rw [if_pos trivial, if_neg (by decide), awake_true]; rfl

end Go.Proofs.YtdocfafokfajeaaDoor.PIp
