/- The reference's PutIp and GetIp in closed form: they are ip.Put's and ip.Get's. -/
import Derived.Test.YtdocfafokfajeaaDoorLaw1
import Derived.Test.YtdocfafokfajeaaDoorRefGet
namespace Go.Proofs.YtdocfafokfajeaaDoor.PIp
open Go.RowKit Go.Proofs.YtdocfafokfajeaaDoorW.PrintWords Go.Proofs.YtdocfafokfajeaaDoorW.PrintLast Go.Proofs.YtdocfafokfajeaaDoorW.PrintMore
open Go.Proofs.YtdocfafokfajeaaDoor.Inet
set_option linter.unusedVariables false
set_option linter.unusedSimpArgs false

theorem or_join (i : Nat) (hi : i ≤ 40) {x y : Int} (h0 : 0 ≤ x) (h1 : x < 2 ^ 48) (hx : x % 2 ^ i = 0) (h2 : 0 ≤ y) (h3 : y < 2 ^ i) : bits .or .i64 x y = x + y := by
  have h4 : (2 : Int) ^ i ≤ 2 ^ 40 := by exact_mod_cast Nat.pow_le_pow_right (by decide) hi
  exact bits_join .i64 62 (by decide) (fun n a b => by rw [IntKind.wrap_i64]; omega) i x y h0 hx (by omega) h2 h3 (by omega)

theorem rd_at {l : List Int} {i : Nat} (h : i < l.length) : rd l (i : Int) = l[i] := by
  simp [rd, List.getD_eq_getElem?_getD, h]

/-- One round of the reference's sum. -/
theorem ref_round (t a b : Int) (ht : 0 ≤ t) (ha : 0 ≤ a ∧ a < 256) (hb : 0 ≤ b ∧ b < 256) :
    wrap64 (bits .and .i64 (wrap64 (rep t + bits .or .i64 (wrap64 (wrap64 a * 256)) (wrap64 b))) 65535 + wrap64 (rep t + bits .or .i64 (wrap64 (wrap64 a * 256)) (wrap64 b)) / 65536) = rep (t + (a * 256 + b)) := by
  have hr := rep_bound ht
  have hw : wrap64 a = a := by unfold wrap64; omega
  rw [hw, or_step ha.1 (by omega) hb.1 hb.2]
  have hf := rep_fold (s := t) (v := a * 256 + b) ht (by omega) (by omega)
  have hb2 := rep_bound (s := t + (a * 256 + b)) (by omega)
  generalize rep (t + (a * 256 + b)) = z at *
  generalize rep t = y at *
  have hs : wrap64 (y + (a * 256 + b)) = y + (a * 256 + b) := by clear hf hb2; unfold wrap64; omega
  rw [hs, and_mask (by omega) (by omega), hf]
  clear hf hs
  unfold wrap64
  omega

/-- The reference's sum, at bytes of an even number. -/
theorem ref_l (l : List Int) (hb : Bytes l) (hl : l.length ≤ 900) (he : l.length % 2 = 0) : ∀ (d k i : Nat) (t : Int), l.length - i = 2 * d → i ≤ l.length → d < k → 0 ≤ t →
    plenumref1_Inet.l0 k l (rep t) (i : Int) = some (65535 - rep (t + words true (l.drop i))) := by
  intro d
  induction d with
  | zero =>
    intro k i t hd hi hk ht
    obtain ⟨k, rfl⟩ : ∃ m, k = m + 1 := ⟨k - 1, by omega⟩
    have hr := rep_bound ht
    have hn : l.drop i = [] := List.drop_eq_nil_of_le (by omega)
    simp only [plenumref1_Inet.l0]
    rw [if_neg (by omega), hn]
    simp only [words]
    rw [Int.add_zero]
    congr 1
    unfold wrap64; omega
  | succ d ih =>
    intro k i t hd hi hk ht
    obtain ⟨k, rfl⟩ : ∃ m, k = m + 1 := ⟨k - 1, by omega⟩
    have hr := rep_bound ht
    have h0 : i < l.length := by omega
    have h1 : i + 1 < l.length := by omega
    have hx := hb l[i] (List.getElem_mem h0)
    have hy := hb l[i + 1] (List.getElem_mem h1)
    have hdrop : l.drop i = l[i] :: l[i + 1] :: l.drop (i + 2) := by
      rw [List.drop_eq_getElem_cons h0, List.drop_eq_getElem_cons h1]
    simp only [plenumref1_Inet.l0]
    rw [w_add1 i (by omega), w_add2 i (by omega), if_pos (by omega), if_pos (by omega), if_pos (by omega), if_pos (by omega), rd_at h0, rd_at h1]
    have h2 : l.length - (i + 2) = 2 * d := by omega
    rw [ref_round t l[i] l[i + 1] ht hx hy, ih k (i + 2) (t + (l[i] * 256 + l[i + 1])) (by omega) (by omega) (by omega) (by omega), hdrop]
    simp only [words, Bool.not_true, Bool.not_false]
    congr 3
    omega

theorem ref_inet (l : List Int) (hb : Bytes l) (hl : l.length = 20) (k : Nat) (hk : 10 < k) : plenumref1_Inet.f k l = some (65535 - rep (words true l)) := by
  have h := ref_l l hb (by omega) (by omega) 10 k 0 0 (by omega) (by omega) hk (by omega)
  simpa [plenumref1_Inet.f, rep] using h

theorem ref_ip {t p s d : Int} {l : List Int} (h : fits t p s d = true) (hl : l.length ≤ 1024) (q : Int) :
    plenumref1_ip.f t p s d l q = some (head t p s d l.length q ++ l) := by
  have hf := of_decide_eq_true h
  obtain ⟨h1, h2, h3, h4, h5, h6, h7, h8⟩ := hf
  have ew : wrap64 (20 + (l.length : Int)) = 20 + (l.length : Int) := by unfold wrap64; omega
  unfold plenumref1_ip.f plenumref1_two.f plenumref1_four.f
  simp only [Option.bind_some, List.length_append, List.length_cons, List.length_nil]
  rw [if_pos (by omega), if_pos (by omega), if_pos (by omega), if_pos (by omega), if_pos (by omega), if_pos (by omega), ew]
  have et : t % 256 = t := by omega
  have ep : p % 256 = p := by omega
  simp [head, et, ep]

/-- PutIp is ip.Put. -/
theorem ref_put (k : Nat) (hk : 11 < k) (t p s d : Int) (l : List Int) : plenumref1_PutIp.f k t p s d l = ip_Put.f t p s d l := by
  obtain ⟨k, rfl⟩ : ∃ m, k = m + 1 := ⟨k - 1, by omega⟩
  have hno : ¬ fits t p s d = true → plenumref1_PutIp.j0 (k + 1) true t p s d l = ip_Put.f t p s d l := by
    intro h
    simp only [plenumref1_PutIp.j0]
    rw [if_pos trivial, put_not h]
  unfold plenumref1_PutIp.f plenumref1_Right.f
  by_cases a1 : t < 0
  · rw [if_pos a1]; exact hno (by unfold fits; simp; omega)
  · rw [if_neg a1]
    by_cases a2 : t > 255
    · rw [if_pos a2]; exact hno (by unfold fits; simp; omega)
    · rw [if_neg a2]
      by_cases a3 : p < 0
      · rw [if_pos a3]; exact hno (by unfold fits; simp; omega)
      · rw [if_neg a3]
        by_cases a4 : p > 255
        · rw [if_pos a4]; exact hno (by unfold fits; simp; omega)
        · rw [if_neg a4]
          by_cases a5 : 0 ≤ s ∧ s ≤ 4294967295
          · rw [if_pos a5.1, Option.bind_some, decide_eq_true a5.2, if_pos rfl]
            by_cases a6 : 0 ≤ d ∧ d ≤ 4294967295
            · rw [if_pos a6.1, Option.bind_some, decide_eq_true a6.2]
              have hf : fits t p s d = true := decide_eq_true (by omega)
              simp only [Bool.not_true, plenumref1_PutIp.j0]
              rw [if_neg (by simp)]
              by_cases a7 : (l.length : Int) > 1024
              · rw [if_pos a7]
                unfold ip_Put.f
                rw [if_pos hf, if_pos a7]
              · rw [if_neg a7, ref_ip hf (by omega), Option.bind_some, if_pos (by simp [head_length]; omega), put_fits hf (by omega)]
                have ht : (head t p s d l.length 0 ++ l).take 20 = head t p s d l.length 0 := by
                  rw [List.take_append_of_le_length (by rw [head_length]; omega), List.take_of_length_le (by rw [head_length]; omega)]
                rw [ht, ref_inet _ (head_bytes t p s d l.length 0 (by omega) (by omega) (by omega) (by omega)) (head_length _ _ _ _ _ _) k (by omega), Option.bind_some, ref_ip hf (by omega)]
                rfl
            · have e : (if d ≥ 0 then (some (decide (d ≤ 4294967295))) else (some false)) = some false := by
                by_cases a7 : d ≥ 0
                · rw [if_pos a7, decide_eq_false (by omega)]
                · rw [if_neg a7]
              rw [e]
              exact hno (by unfold fits; simp; omega)
          · have e : (if s ≥ 0 then (some (decide (s ≤ 4294967295))) else (some false)) = some false := by
              by_cases a7 : s ≥ 0
              · rw [if_pos a7, decide_eq_false (by omega)]
              · rw [if_neg a7]
            rw [e, Option.bind_some, if_neg (by simp)]
            exact hno (by unfold fits; simp; omega)

theorem ref_two {l : List Int} (hb : Bytes l) (i : Nat) (h : i + 1 < l.length) (hl : l.length ≤ 3000) : plenumref1_Two.f l (i : Int) = some (be2 l (i : Int)) := by
  have e1 : wrap64 ((i : Int) + 1) = ((i + 1 : Nat) : Int) := by unfold wrap64; omega
  have r0 := rd_byte hb (i : Int)
  have r1 := rd_byte hb ((i + 1 : Nat) : Int)
  unfold plenumref1_Two.f
  rw [e1, if_pos (by omega), if_pos (by omega), if_pos (by omega), if_pos (by omega)]
  have hw : wrap64 (rd l (i : Int)) = rd l (i : Int) := by unfold wrap64; omega
  rw [hw, or_step r0.1 (by omega) r1.1 r1.2]
  rfl

theorem ref_four {l : List Int} (hb : Bytes l) (i : Nat) (h : i + 3 < l.length) (hl : l.length ≤ 3000) : plenumref1_Four.f l (i : Int) = some (be4 l (i : Int)) := by
  have e1 : wrap64 ((i : Int) + 1) = ((i : Int) + 1) := by unfold wrap64; omega
  have e2 : wrap64 ((i : Int) + 2) = ((i : Int) + 2) := by unfold wrap64; omega
  have e3 : wrap64 ((i : Int) + 3) = ((i : Int) + 3) := by unfold wrap64; omega
  have r0 := rd_byte hb (i : Int)
  have r1 := rd_byte hb ((i : Int) + 1)
  have r2 := rd_byte hb ((i : Int) + 2)
  have r3 := rd_byte hb ((i : Int) + 3)
  unfold plenumref1_Four.f be4
  rw [e1, e2, e3, if_pos (by omega), if_pos (by omega), if_pos (by omega), if_pos (by omega), if_pos (by omega), if_pos (by omega), if_pos (by omega), if_pos (by omega)]
  generalize rd l (i : Int) = a at *
  generalize rd l ((i : Int) + 1) = b at *
  generalize rd l ((i : Int) + 2) = c at *
  generalize rd l ((i : Int) + 3) = d at *
  have w0 : wrap64 (wrap64 a * 16777216) = a * 16777216 := by unfold wrap64; omega
  have w1 : wrap64 (wrap64 b * 65536) = b * 65536 := by unfold wrap64; omega
  have w2 : wrap64 (wrap64 c * 256) = c * 256 := by unfold wrap64; omega
  have w3 : wrap64 d = d := by unfold wrap64; omega
  have o1 : bits .or .i64 (a * 16777216) (b * 65536) = a * 16777216 + b * 65536 := or_join 24 (by decide) (by omega) (by omega) (by omega) (by omega) (by omega)
  have o2 : bits .or .i64 (a * 16777216 + b * 65536) (c * 256) = a * 16777216 + b * 65536 + c * 256 := or_join 16 (by decide) (by omega) (by omega) (by omega) (by omega) (by omega)
  have o3 : bits .or .i64 (a * 16777216 + b * 65536 + c * 256) d = a * 16777216 + b * 65536 + c * 256 + d := or_join 8 (by decide) (by omega) (by omega) (by omega) (by omega) (by omega)
  rw [w0, w1, w2, w3, o1, o2, o3]
  congr 1
  omega

end Go.Proofs.YtdocfafokfajeaaDoor.PIp
