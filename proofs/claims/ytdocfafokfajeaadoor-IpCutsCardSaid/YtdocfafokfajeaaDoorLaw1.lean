/- Byte lists as strings, two datagrams being one: plain. -/
import Derived.Lib.Bytes
import Derived.Test.YtdocfafokfajeaaDoorLaw0
namespace Go.Proofs.YtdocfafokfajeaaDoor.PIp
open Go.RowKit Go.Proofs.YtdocfafokfajeaaDoorW.PrintWords Go.Proofs.YtdocfafokfajeaaDoorW.PrintLast Go.Proofs.YtdocfafokfajeaaDoorW.PrintMore
open Go.Proofs.YtdocfafokfajeaaDoor.Inet
set_option linter.unusedVariables false
set_option linter.unusedSimpArgs false

theorem byte_map : ∀ (a b : List Int), Bytes a → Bytes b → a.map (fun n => UInt8.ofNat n.toNat) = b.map (fun n => UInt8.ofNat n.toNat) → a = b
  | [], [], _, _, _ => rfl
  | [], _ :: _, _, _, h => by simp at h
  | _ :: _, [], _, _, h => by simp at h
  | x :: a, y :: b, ha, hb, h => by
    simp only [List.map_cons, List.cons.injEq] at h
    obtain ⟨h1, h2⟩ := h
    have hx := ha x (by simp)
    have hy := hb y (by simp)
    have h3 := congrArg UInt8.toNat h1
    simp only [UInt8.toNat_ofNat'] at h3
    have e : x = y := by omega
    rw [e, byte_map a b (fun z hz => ha z (by simp [hz])) (fun z hz => hb z (by simp [hz])) h2]

/-- Two byte lists make one string just where they are one. -/
theorem str_eq {a b : List Int} (ha : Bytes a) (hb : Bytes b) : ((strOfNums a).toList == (strOfNums b).toList) = decide (a = b) := by
  by_cases h : a = b
  · subst h
    simp
  · rw [decide_eq_false h, beq_eq_false_iff_ne]
    intro e
    rw [Go.Lib.strOfNums_toList, Go.Lib.strOfNums_toList] at e
    exact h (byte_map a b ha hb e)

theorem same_f {t p s d t' p' s' d' : Int} {l l' : List Int} (ha : Bytes l) (hb : Bytes l') :
    plenumlaw3_Same.f t p s d l t' p' s' d' l' = some (decide (t = t' ∧ p = p' ∧ s = s' ∧ d = d' ∧ l = l')) := by
  unfold plenumlaw3_Same.f
  rw [str_eq ha hb]
  by_cases h1 : t = t' <;> by_cases h2 : p = p' <;> by_cases h3 : s = s' <;> by_cases h4 : d = d' <;> simp [h1, h2, h3, h4]

theorem put_not {t p s d : Int} {l : List Int} (h : ¬ fits t p s d = true) : ip_Put.f t p s d l = some ([], 1) := by
  unfold ip_Put.f
  rw [if_neg h]

theorem put_bytes {t p s d : Int} {l : List Int} (h : fits t p s d = true) (hb : Bytes l) (q : Int) : Bytes (head t p s d l.length q ++ l) := by
  have hq := of_decide_eq_true h
  intro x hx
  rcases List.mem_append.mp hx with h | h
  · exact head_bytes t p s d l.length _ hq.1 hq.2.1 hq.2.2.1 hq.2.2.2.1 x h
  · exact hb x h

end Go.Proofs.YtdocfafokfajeaaDoor.PIp
