/- IpBack: a datagram that is told is read back, of two unlike ones the bytes are unlike: the law in closed form answers true at any two datagrams. -/
import Derived.Lib.Bytes
import Derived.Test.YtdocfafokfajeaaDoorLaw0
import Derived.Test.YtdocfafokfajeaaDoorFBack
namespace Go.Proofs.YtdocfafokfajeaaDoor.PIp
open Go.RowKit Go.Proofs.YtdocfafokfajeaaDoorW.PrintWords Go.Proofs.YtdocfafokfajeaaDoorW.PrintLast Go.Proofs.YtdocfafokfajeaaDoorW.PrintMore
open Go.Proofs.YtdocfafokfajeaaDoor.Inet
set_option linter.unusedVariables false
set_option linter.unusedSimpArgs false

theorem byte_map : ∀ (a b : List Int), Bytes a → Bytes b → a.map (fun n => UInt8.ofNat n.toNat) = b.map (fun n => UInt8.ofNat n.toNat) → a = b
  | [], [], _, _, _ => rfl
  | [], _ :: _, _, _, h => by simp at h
  | _ :: _, [], _, _, h => by simp at h
  | x :: a, y :: b, ha, hb, h => by
    simp only [List.map_cons, List.cons.injEq] at h
    obtain ⟨h1, h2⟩ := h
    have hx := ha x (by simp)
    have hy := hb y (by simp)
    have h3 := congrArg UInt8.toNat h1
    simp only [UInt8.toNat_ofNat'] at h3
    have e : x = y := by omega
    rw [e, byte_map a b (fun z hz => ha z (by simp [hz])) (fun z hz => hb z (by simp [hz])) h2]

/-- Two byte lists make one string just where they are one. -/
theorem str_eq {a b : List Int} (ha : Bytes a) (hb : Bytes b) : ((strOfNums a).toList == (strOfNums b).toList) = decide (a = b) := by
  by_cases h : a = b
  · subst h
    simp
  · rw [decide_eq_false h, beq_eq_false_iff_ne]
    intro e
    rw [Go.Lib.strOfNums_toList, Go.Lib.strOfNums_toList] at e
    exact h (byte_map a b ha hb e)

theorem same_f {t p s d t' p' s' d' : Int} {l l' : List Int} (ha : Bytes l) (hb : Bytes l') :
    plenumlaw3_Same.f t p s d l t' p' s' d' l' = some (decide (t = t' ∧ p = p' ∧ s = s' ∧ d = d' ∧ l = l')) := by
  unfold plenumlaw3_Same.f
  rw [str_eq ha hb]
  by_cases h1 : t = t' <;> by_cases h2 : p = p' <;> by_cases h3 : s = s' <;> by_cases h4 : d = d' <;> simp [h1, h2, h3, h4]

theorem put_not {t p s d : Int} {l : List Int} (h : ¬ fits t p s d = true) : ip_Put.f t p s d l = some ([], 1) := by
  unfold ip_Put.f
  rw [if_neg h]

theorem put_bytes {t p s d : Int} {l : List Int} (h : fits t p s d = true) (hb : Bytes l) (q : Int) : Bytes (head t p s d l.length q ++ l) := by
  have hq := of_decide_eq_true h
  intro x hx
  rcases List.mem_append.mp hx with h | h
  · exact head_bytes t p s d l.length _ hq.1 hq.2.1 hq.2.2.1 hq.2.2.2.1 x h
  · exact hb x h

theorem j1_false {t p s d : Int} {l : List Int} {t' p' s' d' : Int} {l' : List Int} {A A' : List Int} {v : Bool} (hg : ip_Get.f A = some (t, p, s, d, l, 0)) (h1 : plenumlaw3_Same.f t p s d l t p s d l = some true)
    (h2 : plenumlaw3_Same.f t p s d l t' p' s' d' l' = some v) (h3 : (((strOfNums A).toList == (strOfNums A').toList) == v) = true) (h4 : (A.length : Int) = wrap64 (20 + (l.length : Int))) :
    plenumlaw3_IpBack.j1 1 A A' false t p s d l t' p' s' d' l' = some true := by
  rw [show (1 : Nat) = 0 + 1 from rfl, plenumlaw3_IpBack.j1]
  rw [if_neg Bool.false_ne_true, hg, Option.bind_some]
  show (plenumlaw1_Num.f 0).bind _ = _
  unfold plenumlaw1_Num.f
  rw [Option.bind_some, if_pos rfl]
  dsimp only
  rw [h1, Option.bind_some, if_pos rfl, h2, Option.bind_some, if_pos h3, if_pos h4, awake_true, Option.bind_some]

theorem pure_back (t p s d : Int) (l : List Int) (t' p' s' d' : Int) (l' : List Int) (hb : Bytes l) (hb' : Bytes l') :
    plenumlaw3_IpBack.f 2 t p s d l t' p' s' d' l' = some true := by
  have hyes : ∀ a b c d e a' b' c' d' e', plenumlaw3_IpBack.j0 2 true a b c d e a' b' c' d' e' = some true := by
    intros
    simp only [plenumlaw3_IpBack.j0]
    rw [if_pos trivial, awake_true]; rfl
  have hyes1 : ∀ x y a b c d e a' b' c' d' e', plenumlaw3_IpBack.j1 1 x y true a b c d e a' b' c' d' e' = some true := by
    intros
    simp only [plenumlaw3_IpBack.j1]
    rw [if_pos trivial, awake_true]; rfl
  have hone : ((1 : Int) != 0) = true := by decide
  unfold plenumlaw3_IpBack.f
  by_cases hl : (l.length : Int) > 1024
  · rw [if_pos hl]; exact hyes _ _ _ _ _ _ _ _ _ _
  · rw [if_neg hl]
    by_cases hl' : (l'.length : Int) > 1024
    · rw [decide_eq_true hl']; exact hyes _ _ _ _ _ _ _ _ _ _
    · rw [decide_eq_false hl']
      simp only [plenumlaw3_IpBack.j0]
      rw [if_neg (by simp)]
      by_cases hf : fits t p s d = true
      · rw [put_fits hf (by omega)]
        by_cases hf' : fits t' p' s' d' = true
        · rw [put_fits hf' (by omega)]
          simp only [Option.bind_some, plenumlaw1_Num.f]
          rw [if_pos trivial]
          have hg := get_put hf (by omega) hb
          have hg' := get_put hf' (by omega) hb'
          have hA := put_bytes hf hb (headSum t p s d l.length)
          have hA' := put_bytes hf' hb' (headSum t' p' s' d' l'.length)
          have hlen : ((head t p s d l.length (headSum t p s d l.length) ++ l).length : Int) = 20 + l.length := by simp [head_length]
          have heq : (t = t' ∧ p = p' ∧ s = s' ∧ d = d' ∧ l = l') → head t p s d l.length (headSum t p s d l.length) ++ l = head t' p' s' d' l'.length (headSum t' p' s' d' l'.length) ++ l' := by
            rintro ⟨rfl, rfl, rfl, rfl, rfl⟩; rfl
          generalize head t p s d l.length (headSum t p s d l.length) ++ l = A at *
          generalize head t' p' s' d' l'.length (headSum t' p' s' d' l'.length) ++ l' = A' at *
          have hne : ((0 : Int) != 0) = false := by decide
          rw [hne]
          have hiff : (((strOfNums A).toList == (strOfNums A').toList) == decide (t = t' ∧ p = p' ∧ s = s' ∧ d = d' ∧ l = l')) = true := by
            rw [str_eq hA hA', beq_iff_eq]
            by_cases h : t = t' ∧ p = p' ∧ s = s' ∧ d = d' ∧ l = l'
            · rw [decide_eq_true h, decide_eq_true (heq h)]
            · rw [decide_eq_false h]
              refine decide_eq_false fun e => h ?_
              subst e
              rw [hg] at hg'
              simp only [Option.some.injEq, Prod.mk.injEq, and_true] at hg'
              exact hg'
          exact j1_false hg ((same_f hb hb).trans (by simp)) (same_f hb hb') hiff (by rw [hlen]; unfold wrap64; omega)
        · rw [put_not hf']
          simp only [Option.bind_some, plenumlaw1_Num.f]
          rw [if_pos trivial, hone]
          exact hyes1 _ _ _ _ _ _ _ _ _ _ _ _
      · rw [put_not hf]
        by_cases hf' : fits t' p' s' d' = true
        · rw [put_fits hf' (by omega)]
          simp only [Option.bind_some, plenumlaw1_Num.f]
          rw [if_neg (by decide)]
          exact hyes1 _ _ _ _ _ _ _ _ _ _ _ _
        · rw [put_not hf']
          simp only [Option.bind_some, plenumlaw1_Num.f]
          rw [if_neg (by decide)]
          exact hyes1 _ _ _ _ _ _ _ _ _ _ _ _

end Go.Proofs.YtdocfafokfajeaaDoor.PIp
