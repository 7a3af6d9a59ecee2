/- IpAll: the bytes of any datagram, and the datagram of any bytes, are the reference's: the law in closed form answers true. -/
import Derived.Test.YtdocfafokfajeaaDoorPureAll0
import Derived.Test.YtdocfafokfajeaaDoorFAll
namespace Go.Proofs.YtdocfafokfajeaaDoor.PIp
open Go.RowKit Go.Proofs.YtdocfafokfajeaaDoorW.PrintWords Go.Proofs.YtdocfafokfajeaaDoorW.PrintLast Go.Proofs.YtdocfafokfajeaaDoorW.PrintMore
open Go.Proofs.YtdocfafokfajeaaDoor.Inet
set_option linter.unusedVariables false
set_option linter.unusedSimpArgs false

theorem str_iff {a b : List Int} (ha : Bytes a) (hb : Bytes b) : ((strOfNums a).toList = (strOfNums b).toList) ↔ a = b := by
  have h := str_eq ha hb
  rw [Bool.eq_iff_iff, beq_iff_eq, decide_eq_true_iff] at h
  exact h

/-- ip.Get at bytes of the right form. -/
theorem get_form {l : List Int} (hb : Bytes l) (h20 : ¬ l.length < 20) (hf : rd l 0 = 69 ∧ rd l 1 = 0 ∧ be4 l 4 = 0 ∧ be2 l 2 = (l.length : Int) ∧ ¬ be2 l 2 > 1044) :
    ip_Get.f l = if sumOf l = be2 l 10 then some (rd l 8, rd l 9, be4 l 12, be4 l 16, l.drop 20, 0) else some (0, 0, 0, 0, [], 4) := by
  unfold ip_Get.f
  rw [if_pos (all_bytes hb), if_neg h20, if_pos hf]

theorem get_noform {l : List Int} (hb : Bytes l) (h20 : ¬ l.length < 20) (hf : ¬ (rd l 0 = 69 ∧ rd l 1 = 0 ∧ be4 l 4 = 0 ∧ be2 l 2 = (l.length : Int) ∧ ¬ be2 l 2 > 1044)) :
    ip_Get.f l = some (0, 0, 0, 0, [], 3) := by
  unfold ip_Get.f
  rw [if_pos (all_bytes hb), if_neg h20, if_neg hf]

theorem be4_bound {l : List Int} (hb : Bytes l) (i : Int) : 0 ≤ be4 l i ∧ be4 l i ≤ 4294967295 := by
  have r0 := rd_byte hb i
  have r1 := rd_byte hb (i + 1)
  have r2 := rd_byte hb (i + 2)
  have r3 := rd_byte hb (i + 3)
  unfold be4
  omega

theorem w_byte {l : List Int} (hb : Bytes l) (i : Int) : wrap64 (rd l i) = rd l i := by
  have r := rd_byte hb i
  unfold wrap64
  omega

/-- The reference's answer at bytes of the right form. -/
theorem ref_form (k : Nat) (hk : 11 < k) {l : List Int} (hb : Bytes l) (hl : l.length ≤ 1044) (h20 : ¬ l.length < 20) (hf : rd l 0 = 69 ∧ rd l 1 = 0 ∧ be4 l 4 = 0 ∧ be2 l 2 = (l.length : Int) ∧ ¬ be2 l 2 > 1044) :
    plenumref1_GetIp.j0 (k + 1) l false = ip_Get.f l := by
  have hg := get_form hb h20 hf
  have hbm : Bytes (l.drop 20) := fun x hx => hb x (List.mem_of_mem_drop hx)
  have hm : (l.drop 20).length = l.length - 20 := List.length_drop
  have b12 := be4_bound hb 12
  have b16 := be4_bound hb 16
  have b8 := rd_byte hb 8
  have b9 := rd_byte hb 9
  have hfit : fits (rd l 8) (rd l 9) (be4 l 12) (be4 l 16) = true := decide_eq_true (by omega)
  have hf12 : plenumref1_Four.f l 12 = some (be4 l 12) := ref_four hb 12 (by omega) (by omega)
  have hf16 : plenumref1_Four.f l 16 = some (be4 l 16) := ref_four hb 16 (by omega) (by omega)
  simp only [plenumref1_GetIp.j0]
  rw [if_neg (by simp), if_pos (by omega), if_pos (by omega), hf12, Option.bind_some, hf16, Option.bind_some, Option.bind_some, if_pos (by omega), if_pos (by simp; omega), List.nil_append, Option.bind_some, w_byte hb, w_byte hb, ref_put k hk, put_fits hfit (by omega), Option.bind_some]
  have hby := put_bytes hfit hbm (headSum (rd l 8) (rd l 9) (be4 l 12) (be4 l 16) ((l.drop 20).length : Int))
  dsimp only
  by_cases hs : sumOf l = be2 l 10
  · rw [if_pos hs] at hg
    have he := (put_get hb hg).2.2.2
    rw [if_pos (by rw [he]), hg]
  · rw [if_neg hs] at hg
    rw [if_neg, hg]
    rw [str_iff hby hb]
    intro he
    have hp := get_put hfit (l := l.drop 20) (by omega) hbm
    rw [he, hg] at hp
    simp at hp

/-- GetIp is ip.Get. -/
theorem ref_get (k : Nat) (hk : 12 < k) {l : List Int} (hb : Bytes l) (hl : l.length ≤ 3000) : plenumref1_GetIp.f k l = ip_Get.f l := by
  obtain ⟨k, rfl⟩ : ∃ m, k = m + 1 := ⟨k - 1, by omega⟩
  unfold plenumref1_GetIp.f
  by_cases h20 : l.length < 20
  · rw [if_pos (by omega)]
    unfold ip_Get.f
    rw [if_pos (all_bytes hb), if_pos h20]
  · rw [if_neg (by omega), if_pos (by omega)]
    have hno : ¬ (rd l 0 = 69 ∧ rd l 1 = 0 ∧ be4 l 4 = 0 ∧ be2 l 2 = (l.length : Int) ∧ ¬ be2 l 2 > 1044) → plenumref1_GetIp.j0 (k + 1) l true = ip_Get.f l := by
      intro h
      rw [get_noform hb h20 h]
      simp only [plenumref1_GetIp.j0]
      rw [if_pos trivial]
    have hf4 : plenumref1_Four.f l 4 = some (be4 l 4) := ref_four hb 4 (by omega) (by omega)
    have hf2 : plenumref1_Two.f l 2 = some (be2 l 2) := ref_two hb 2 (by omega) (by omega)
    by_cases c0 : rd l 0 = 69
    · rw [if_pos c0, if_pos (by omega)]
      by_cases c1 : rd l 1 = 0
      · rw [if_pos c1, hf4, Option.bind_some]
        by_cases c4 : be4 l 4 = 0
        · rw [if_pos c4, hf2, Option.bind_some]
          by_cases c2 : be2 l 2 = (l.length : Int)
          · rw [if_pos c2]
            by_cases c3 : (l.length : Int) > 1044
            · rw [decide_eq_true c3]
              exact hno fun h => h.2.2.2.2 (by omega)
            · rw [decide_eq_false c3]
              exact ref_form k (by omega) hb (by omega) h20 ⟨c0, c1, c4, c2, by omega⟩
          · rw [if_neg c2]; exact hno fun h => c2 h.2.2.2.1
        · rw [if_neg c4]; exact hno fun h => c4 h.2.2.1
      · rw [if_neg c1]; exact hno fun h => c1 h.2.1
    · rw [if_neg c0]; exact hno fun h => c0 h.1

theorem same_self (t p s d : Int) (l : List Int) : plenumlaw3_Same.f t p s d l t p s d l = some true := by
  unfold plenumlaw3_Same.f
  simp

theorem put_some (t p s d : Int) (l : List Int) : ∃ x c, ip_Put.f t p s d l = some (x, c) := by
  unfold ip_Put.f
  split
  · split <;> exact ⟨_, _, rfl⟩
  · exact ⟨_, _, rfl⟩

theorem j0_all {k : Nat} {l b x m : List Int} {t p s d c t' p' s' d' e : Int} (h1 : ip_Put.f t p s d l = some (x, c)) (h2 : plenumref1_PutIp.f k t p s d l = some (x, c)) (h3 : ip_Get.f b = some (t', p', s', d', m, e)) (h4 : plenumref1_GetIp.f k b = some (t', p', s', d', m, e)) :
    plenumlaw3_IpAll.j0 (k + 1) b false t p s d l = some true := by
  rw [plenumlaw3_IpAll.j0, if_neg Bool.false_ne_true, h1, Option.bind_some, h2, Option.bind_some, h3, Option.bind_some, h4, Option.bind_some]
  dsimp only
  rw [if_pos rfl]
  unfold plenumlaw1_Num.f
  rw [Option.bind_some, if_pos rfl, same_self, Option.bind_some, if_pos rfl, Option.bind_some, if_pos rfl, awake_true, Option.bind_some]

theorem pure_all (t p s d : Int) (l b : List Int) (hb : Bytes b) : plenumlaw3_IpAll.f 20 t p s d l b = some true := by
  have hyes : plenumlaw3_IpAll.j0 20 b true t p s d l = some true := by
    simp only [plenumlaw3_IpAll.j0]
    rw [if_pos trivial, awake_true]; rfl
  unfold plenumlaw3_IpAll.f
  by_cases h1 : (l.length : Int) > 3000
  · rw [if_pos h1]; exact hyes
  · rw [if_neg h1]
    by_cases h2 : (b.length : Int) > 3000
    · rw [decide_eq_true h2]; exact hyes
    · rw [decide_eq_false h2]
      obtain ⟨x, c, hp⟩ := put_some t p s d l
      obtain ⟨t', p', s', d', m, e, hg⟩ := get_some hb
      exact j0_all (k := 19) hp ((ref_put 19 (by decide) t p s d l).trans hp) hg ((ref_get 19 (by decide) hb (by omega)).trans hg)

end Go.Proofs.YtdocfafokfajeaaDoor.PIp
