/- A nought behind an odd last byte, or noughts behind all, leave the sum of words as it is: for every slice of bytes and every count. -/
import Derived.Test.YtgdbajadafhehaaPSumTailsx1
import Derived.Test.YtgdbajadafhehaaInet
namespace Go.Proofs.Ytgdbajadafhehaa.Pure
open Go.RowKit Go.Proofs.Ytgdbajadafhehaa.PSumTails Go.Proofs.YtgdbajadafhehaaW.PrintWords Go.Proofs.YtgdbajadafhehaaW.PrintLast
open Go.Proofs.Ytgdbajadafhehaa.Inet
set_option linter.unusedVariables false
set_option linter.unusedSimpArgs false

theorem inet_l (l : List Int) (hb : Bytes l) (hl : (l.length : Int) ≤ 140737488351232) (d : Nat) : ∀ (k i : Nat) (t : Int), l.length - i = d → i ≤ l.length → d < k → 0 ≤ t →
    sum_Inet.l0 k (rep t) l (l.length : Int) (i : Int) = some (65535 - rep (t + words (decide (i % 2 = 0)) (l.drop i))) := by
  induction d with
  | zero =>
    intro k i t hd hi hk ht
    obtain ⟨k, rfl⟩ : ∃ m, k = m + 1 := ⟨k - 1, by omega⟩
    have hr := rep_bound ht
    have hn : l.drop i = [] := List.drop_eq_nil_of_le (by omega)
    simp only [sum_Inet.l0]
    rw [if_neg (by omega), hn]
    have hw : ∀ e, words e [] = 0 := fun e => by cases e <;> rfl
    rw [hw, Int.add_zero]
    congr 1
    unfold wrap64; omega
  | succ d ih =>
    intro k i t hd hi hk ht
    obtain ⟨k, rfl⟩ : ∃ m, k = m + 1 := ⟨k - 1, by omega⟩
    have hr := rep_bound ht
    have hlt : i < l.length := by omega
    have hrd : rd l (i : Int) = l[i] := by simp [rd, List.getD_eq_getElem?_getD, hlt]
    have hx := hb l[i] (List.getElem_mem hlt)
    have hdrop : l.drop i = l[i] :: l.drop (i + 1) := List.drop_eq_getElem_cons hlt
    simp only [sum_Inet.l0]
    rw [if_pos (by omega), if_pos (by omega), if_pos (by omega), hrd]
    have hi1 : wrap64 ((i : Int) + 1) = ((i + 1 : Nat) : Int) := by unfold wrap64; omega
    rw [hi1]
    have hw1 : wrap64 l[i] = l[i] := by unfold wrap64; omega
    have hw2 : wrap64 (l[i] * 256) = l[i] * 256 := by unfold wrap64; omega
    rw [hw1, hw2]
    have hs1 : wrap64 (rep t + l[i] * 256) = rep t + l[i] * 256 := by unfold wrap64; omega
    have hs2 : wrap64 (rep t + l[i]) = rep t + l[i] := by unfold wrap64; omega
    rw [hs1, hs2, and_mask (by omega) (by omega), and_mask (by omega) (by omega)]
    have htm : Int.tmod (i : Int) 2 = (i : Int) % 2 := Int.tmod_eq_emod_of_nonneg (by omega)
    rw [htm]
    by_cases he : i % 2 = 0
    · rw [if_pos (by omega)]
      have hf := rep_fold (s := t) (v := l[i] * 256) ht (by omega) (by omega)
      have hb2 := rep_bound (s := t + l[i] * 256) (by omega)
      rw [hf]
      have hw3 : wrap64 (rep (t + l[i] * 256)) = rep (t + l[i] * 256) := by unfold wrap64; omega
      rw [hw3, ih k (i + 1) (t + l[i] * 256) (by omega) (by omega) (by omega) (by omega), hdrop]
      have e1 : decide (i % 2 = 0) = true := decide_eq_true he
      have e2 : decide ((i + 1) % 2 = 0) = false := decide_eq_false (by omega)
      rw [e1, e2]; simp only [words]; rw [Int.add_assoc]
    · rw [if_neg (by omega)]
      have hf := rep_fold (s := t) (v := l[i]) ht (by omega) (by omega)
      have hb2 := rep_bound (s := t + l[i]) (by omega)
      rw [hf]
      have hw3 : wrap64 (rep (t + l[i])) = rep (t + l[i]) := by unfold wrap64; omega
      rw [hw3, ih k (i + 1) (t + l[i]) (by omega) (by omega) (by omega) (by omega), hdrop]
      have e1 : decide (i % 2 = 0) = false := decide_eq_false he
      have e2 : decide ((i + 1) % 2 = 0) = true := decide_eq_true (by omega)
      rw [e1, e2]; simp only [words]; rw [Int.add_assoc]

theorem inet (l : List Int) (hb : Bytes l) (hl : (l.length : Int) ≤ 140737488351232) (k : Nat) (hk : l.length < k) :
    sum_Inet.f k l = some (65535 - rep (words true l)) := by
  have h := inet_l l hb hl l.length k 0 0 (by omega) (by omega) hk (by omega)
  simpa [sum_Inet.f, rep] using h

theorem awake_true (k : Nat) (hk : 0 < k) : plenumlaw2_awake.f k = some true := by
  unfold plenumlaw2_awake.f
  rw [inet [] (by intro x hx; cases hx) (by simp) k (by simpa using hk)]
  rfl

theorem SumTails : plenumlaw2_SumTails.Pure := by
  intro l a1 hm hl hw ha
  have hb := bytes_of hw
  have ha' := bytes_of (l := [a1]) (by intro x hx; simp at hx; subst hx; exact ha) a1 (by simp)
  refine ⟨l.length + 1000, ?_⟩
  have haw := fun k hk => awake_true k hk
  unfold plenumlaw2_SumTails.f
  by_cases h3 : (l.length : Int) > 3000
  · rw [if_pos h3, haw _ (by omega)]; rfl
  · rw [if_neg h3]
    simp only [Option.bind_some, List.nil_append, List.length_nil, Nat.zero_add]
    rw [if_pos (by omega)]
    have hj : ∀ c : List Int, Bytes c → c.length ≤ l.length + 1 → c.length % 2 = 0 → words true c = words true l → plenumlaw2_SumTails.j0 (l.length + 1000) l a1 c = some true := by
      intro c hc hcl hce hcw
      obtain ⟨k, hk⟩ : ∃ k, l.length + 1000 = k + 1 := ⟨l.length + 999, rfl⟩
      rw [hk]
      simp only [plenumlaw2_SumTails.j0, Option.bind_some, List.nil_append, List.length_nil, Nat.zero_add]
      have hwa : wrap64 a1 = a1 := by unfold wrap64; omega
      have ht : Int.tmod a1 40 = a1 % 40 := Int.tmod_eq_emod_of_nonneg (by omega)
      rw [if_pos (by omega), hwa, ht, if_pos (by omega), if_pos (by omega)]
      have hz : Bytes (c ++ List.replicate (a1 % 40).toNat 0) := by
        intro x hx
        rcases List.mem_append.mp hx with h | h
        · exact hc x h
        · have := List.eq_of_mem_replicate h; omega
      have hzl : (c ++ List.replicate (a1 % 40).toNat 0).length = c.length + (a1 % 40).toNat := by simp
      rw [inet l hb (by omega) k (by omega), inet c hc (by omega) k (by omega), inet _ hz (by omega) k (by omega)]
      simp only [Option.bind_some]
      rw [hcw, if_pos rfl, words_append, if_pos hce, words_zeros, hcw, Int.add_zero, if_pos rfl, haw k (by omega)]
      rfl
    by_cases ho : (l.length : Int) % 2 = 1
    · rw [if_pos ho, if_pos (by omega)]
      refine hj _ ?_ (by simp) (by simp; omega) ?_
      · intro x hx
        rcases List.mem_append.mp hx with h | h
        · exact hb x h
        · simp at h; omega
      · rw [words_append, if_neg (by omega)]; simp [words]
    · rw [if_neg ho]
      exact hj l hb (by omega) (by omega) rfl

end Go.Proofs.Ytgdbajadafhehaa.Pure
