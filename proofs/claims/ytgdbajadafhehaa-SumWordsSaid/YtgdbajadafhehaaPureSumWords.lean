/- The sum of words hangs on their order in no way, and with the sum itself among them it is nought: for every slice of bytes and every two places. -/
import Derived.Test.YtgdbajadafhehaaQSumWords
import Derived.Test.YtgdbajadafhehaaInet
namespace Go.Proofs.Ytgdbajadafhehaa.Pure
open Go.RowKit Go.Proofs.Ytgdbajadafhehaa.PSumWords Go.Proofs.YtgdbajadafhehaaW.PrintWords Go.Proofs.YtgdbajadafhehaaW.PrintLast
open Go.Proofs.Ytgdbajadafhehaa.Inet
set_option linter.unusedVariables false
set_option linter.unusedSimpArgs false

theorem inet_l (l : List Int) (hb : Bytes l) (hl : (l.length : Int) ≤ 140737488351232) (d : Nat) : ∀ (k i : Nat) (t : Int), l.length - i = d → i ≤ l.length → d < k → 0 ≤ t →
    sum_Inet.l0 k (rep t) l (l.length : Int) (i : Int) = some (65535 - rep (t + words (decide (i % 2 = 0)) (l.drop i))) := by
  induction d with
  | zero =>
    intro k i t hd hi hk ht
    obtain ⟨k, rfl⟩ : ∃ m, k = m + 1 := ⟨k - 1, by omega⟩
    have hr := rep_bound ht
    have hn : l.drop i = [] := List.drop_eq_nil_of_le (by omega)
    simp only [sum_Inet.l0]
    rw [if_neg (by omega), hn]
    have hw : ∀ e, words e [] = 0 := fun e => by cases e <;> rfl
    rw [hw, Int.add_zero]
    congr 1
    unfold wrap64; omega
  | succ d ih =>
    intro k i t hd hi hk ht
    obtain ⟨k, rfl⟩ : ∃ m, k = m + 1 := ⟨k - 1, by omega⟩
    have hr := rep_bound ht
    have hlt : i < l.length := by omega
    have hrd : rd l (i : Int) = l[i] := by simp [rd, List.getD_eq_getElem?_getD, hlt]
    have hx := hb l[i] (List.getElem_mem hlt)
    have hdrop : l.drop i = l[i] :: l.drop (i + 1) := List.drop_eq_getElem_cons hlt
    simp only [sum_Inet.l0]
    rw [if_pos (by omega), if_pos (by omega), if_pos (by omega), hrd]
    have hi1 : wrap64 ((i : Int) + 1) = ((i + 1 : Nat) : Int) := by unfold wrap64; omega
    rw [hi1]
    have hw1 : wrap64 l[i] = l[i] := by unfold wrap64; omega
    have hw2 : wrap64 (l[i] * 256) = l[i] * 256 := by unfold wrap64; omega
    rw [hw1, hw2]
    have hs1 : wrap64 (rep t + l[i] * 256) = rep t + l[i] * 256 := by unfold wrap64; omega
    have hs2 : wrap64 (rep t + l[i]) = rep t + l[i] := by unfold wrap64; omega
    rw [hs1, hs2, and_mask (by omega) (by omega), and_mask (by omega) (by omega)]
    have htm : Int.tmod (i : Int) 2 = (i : Int) % 2 := Int.tmod_eq_emod_of_nonneg (by omega)
    rw [htm]
    by_cases he : i % 2 = 0
    · rw [if_pos (by omega)]
      have hf := rep_fold (s := t) (v := l[i] * 256) ht (by omega) (by omega)
      have hb2 := rep_bound (s := t + l[i] * 256) (by omega)
      rw [hf]
      have hw3 : wrap64 (rep (t + l[i] * 256)) = rep (t + l[i] * 256) := by unfold wrap64; omega
      rw [hw3, ih k (i + 1) (t + l[i] * 256) (by omega) (by omega) (by omega) (by omega), hdrop]
      have e1 : decide (i % 2 = 0) = true := decide_eq_true he
      have e2 : decide ((i + 1) % 2 = 0) = false := decide_eq_false (by omega)
      rw [e1, e2]; simp only [words]; rw [Int.add_assoc]
    · rw [if_neg (by omega)]
      have hf := rep_fold (s := t) (v := l[i]) ht (by omega) (by omega)
      have hb2 := rep_bound (s := t + l[i]) (by omega)
      rw [hf]
      have hw3 : wrap64 (rep (t + l[i])) = rep (t + l[i]) := by unfold wrap64; omega
      rw [hw3, ih k (i + 1) (t + l[i]) (by omega) (by omega) (by omega) (by omega), hdrop]
      have e1 : decide (i % 2 = 0) = false := decide_eq_false he
      have e2 : decide ((i + 1) % 2 = 0) = true := decide_eq_true (by omega)
      rw [e1, e2]; simp only [words]; rw [Int.add_assoc]

theorem inet (l : List Int) (hb : Bytes l) (hl : (l.length : Int) ≤ 140737488351232) (k : Nat) (hk : l.length < k) :
    sum_Inet.f k l = some (65535 - rep (words true l)) := by
  have h := inet_l l hb hl l.length k 0 0 (by omega) (by omega) hk (by omega)
  simpa [sum_Inet.f, rep] using h

theorem awake_true (k : Nat) (hk : 0 < k) : plenumlaw2_awake.f k = some true := by
  unfold plenumlaw2_awake.f
  rw [inet [] (by intro x hx; cases hx) (by simp) k (by simpa using hk)]
  rfl


theorem words_set : ∀ (l : List Int) (e : Bool) (i : Nat) (v : Int), i < l.length →
    words e (l.set i v) = words e l + (if decide (i % 2 = 0) = e then 256 else 1) * (v - l.getD i 0)
  | [], e, i, v, h => by simp at h
  | x :: l, e, 0, v, h => by cases e <;> simp [words] <;> omega
  | x :: l, e, i + 1, v, h => by
    have ih := words_set l (!e) i v (by simpa using h)
    have hp : decide ((i + 1) % 2 = 0) = !decide (i % 2 = 0) := by
      by_cases c : i % 2 = 0
      · rw [decide_eq_true c, decide_eq_false (by omega)]; rfl
      · rw [decide_eq_false c, decide_eq_true (by omega)]; rfl
    rw [hp]
    cases e <;> cases hd : decide (i % 2 = 0) <;> simp [words, hd] at ih ⊢ <;> omega

theorem getD_set (l : List Int) (i j : Nat) (v : Int) (hi : i < l.length) : (l.set i v).getD j 0 = if i = j then v else l.getD j 0 := by
  simp only [List.getD_eq_getElem?_getD, List.getElem?_set]
  by_cases h : i = j
  · subst h; simp [hi]
  · simp [h]

theorem bytes_set {l : List Int} {i : Nat} {v : Int} (h : Bytes l) (h0 : 0 ≤ v) (h1 : v < 256) : Bytes (l.set i v) := by
  intro x hx
  rcases List.mem_or_eq_of_mem_set hx with h2 | h2
  · exact h x h2
  · subst h2; exact ⟨h0, h1⟩

theorem byte_at {l : List Int} (h : Bytes l) (i : Nat) : 0 ≤ l.getD i 0 ∧ l.getD i 0 < 256 := by
  rw [List.getD_eq_getElem?_getD]
  cases hh : l[i]? with
  | none => simp
  | some x => exact h x (List.mem_of_getElem? hh)

theorem rd_nat (l : List Int) (i : Nat) : rd l (i : Int) = l.getD i 0 := by simp [rd]

/-- The four stores that change two words for one another leave the sum of words as it is. -/
theorem words_swap (b : List Int) (p q : Nat) (hp : 2 * p + 1 < b.length) (hq : 2 * q + 1 < b.length) :
    words true ((((b.set (2 * p) (b.getD (2 * q) 0)).set (2 * p + 1) ((b.set (2 * p) (b.getD (2 * q) 0)).getD (2 * q + 1) 0)).set (2 * q) (b.getD (2 * p) 0)).set (2 * q + 1) (b.getD (2 * p + 1) 0)) = words true b := by
  obtain ⟨v1, hv1⟩ : ∃ x, x = b.getD (2 * q) 0 := ⟨_, rfl⟩
  obtain ⟨v3, hv3⟩ : ∃ x, x = b.getD (2 * p) 0 := ⟨_, rfl⟩
  obtain ⟨v4, hv4⟩ : ∃ x, x = b.getD (2 * p + 1) 0 := ⟨_, rfl⟩
  rw [← hv1, ← hv3, ← hv4]
  have g1 := fun j => getD_set b (2 * p) j v1 (by omega)
  have s1 := words_set b true (2 * p) v1 (by omega)
  have l1 : (b.set (2 * p) v1).length = b.length := by simp
  generalize b.set (2 * p) v1 = B1 at *
  obtain ⟨v2, hv2⟩ : ∃ x, x = B1.getD (2 * q + 1) 0 := ⟨_, rfl⟩
  rw [← hv2]
  have g2 := fun j => getD_set B1 (2 * p + 1) j v2 (by omega)
  have s2 := words_set B1 true (2 * p + 1) v2 (by omega)
  have l2 : (B1.set (2 * p + 1) v2).length = B1.length := by simp
  generalize B1.set (2 * p + 1) v2 = B2 at *
  have g3 := fun j => getD_set B2 (2 * q) j v3 (by omega)
  have s3 := words_set B2 true (2 * q) v3 (by omega)
  have l3 : (B2.set (2 * q) v3).length = B2.length := by simp
  generalize B2.set (2 * q) v3 = B3 at *
  have s4 := words_set B3 true (2 * q + 1) v4 (by omega)
  rw [s4, s3, s2, s1]
  have e1 : decide ((2 * p) % 2 = 0) = true := decide_eq_true (by omega)
  have e2 : decide ((2 * p + 1) % 2 = 0) = false := decide_eq_false (by omega)
  have e3 : decide ((2 * q) % 2 = 0) = true := decide_eq_true (by omega)
  have e4 : decide ((2 * q + 1) % 2 = 0) = false := decide_eq_false (by omega)
  rw [e1, e2, e3, e4]
  have h1 := g1 (2 * q + 1)
  have h2 := g1 (2 * p + 1)
  have h3 := g2 (2 * q)
  have h4 := g1 (2 * q)
  have h5 := g3 (2 * q + 1)
  have h6 := g2 (2 * q + 1)
  rw [if_neg (by omega)] at h1 h2 h3 h5
  simp only [if_true, Bool.false_eq_true, if_false]
  by_cases h : p = q
  · subst h
    rw [if_pos rfl] at h4 h6
    omega
  · rw [if_neg (by omega)] at h4 h6
    omega

theorem rep_whole {w : Int} (h : 0 ≤ w) : rep (w + (65535 - rep w)) = 65535 := by
  unfold rep
  split <;> split <;> omega

theorem SumWords : plenumlaw2_SumWords.Pure := by
  intro l a1 a2 hm hl hw h1 h2
  have hb := bytes_of hw
  have u16 : ∀ a : Int, (Lit.int .u16 a).wf = true → 0 ≤ a ∧ a < 65536 := by
    intro a h
    simp [Lit.wf, IntKind.min, IntKind.max, IntKind.bits, IntKind.signed] at h
    omega
  have ha1 := u16 a1 h1
  have ha2 := u16 a2 h2
  have hln : ((l.length : Int)) / 2 = ((l.length / 2 : Nat) : Int) := by omega
  refine ⟨l.length + 10, ?_⟩
  obtain ⟨k, hk⟩ : ∃ k, l.length + 10 = k + 1 := ⟨l.length + 9, rfl⟩
  have haw := awake_true k (by omega)
  unfold plenumlaw2_SumWords.f
  rw [hk]
  have hn : wrap64 ((l.length : Int) / 2) = ((l.length / 2 : Nat) : Int) := by unfold wrap64; omega
  rw [hn]
  generalize hnn : l.length / 2 = n
  have hyes : ∀ m : Int, plenumlaw2_SumWords.j0 (k + 1) l a1 a2 m true = some true := by
    intro m
    simp only [plenumlaw2_SumWords.j0]
    rw [if_pos trivial, haw]; rfl
  by_cases hz : n = 0
  · rw [if_pos (by omega)]; exact hyes _
  · rw [if_neg (by omega)]
    by_cases hbig : (l.length : Int) > 3000
    · rw [decide_eq_true hbig]; exact hyes _
    · rw [decide_eq_false hbig]
      have hw2 : wrap64 (2 * (n : Int)) = ((2 * n : Nat) : Int) := by unfold wrap64; omega
      obtain ⟨p, hp, hpn⟩ : ∃ p : Nat, Int.tmod (wrap64 a1) (n : Int) = (p : Int) ∧ p < n := by
        have : wrap64 a1 = a1 := by unfold wrap64; omega
        rw [this, Int.tmod_eq_emod_of_nonneg (by omega)]
        have h3 := Int.emod_nonneg a1 (show (n : Int) ≠ 0 by omega)
        have h4 := Int.emod_lt_of_pos a1 (show (0 : Int) < n by omega)
        exact ⟨(a1 % (n : Int)).toNat, by omega, by omega⟩
      obtain ⟨q, hq, hqn⟩ : ∃ q : Nat, Int.tmod (wrap64 a2) (n : Int) = (q : Int) ∧ q < n := by
        have : wrap64 a2 = a2 := by unfold wrap64; omega
        rw [this, Int.tmod_eq_emod_of_nonneg (by omega)]
        have h3 := Int.emod_nonneg a2 (show (n : Int) ≠ 0 by omega)
        have h4 := Int.emod_lt_of_pos a2 (show (0 : Int) < n by omega)
        exact ⟨(a2 % (n : Int)).toNat, by omega, by omega⟩
      have wp : wrap64 (2 * (p : Int)) = ((2 * p : Nat) : Int) := by unfold wrap64; omega
      have wp1 : wrap64 (((2 * p : Nat) : Int) + 1) = ((2 * p + 1 : Nat) : Int) := by unfold wrap64; omega
      have wq : wrap64 (2 * (q : Int)) = ((2 * q : Nat) : Int) := by unfold wrap64; omega
      have wq1 : wrap64 (((2 * q : Nat) : Int) + 1) = ((2 * q + 1 : Nat) : Int) := by unfold wrap64; omega
      simp only [plenumlaw2_SumWords.j0, hp, hq, hw2, wp, wp1, wq, wq1, Option.bind_some, List.nil_append, List.length_nil, Nat.zero_add, Int.toNat_natCast, rd_nat]
      generalize hB : l.take (2 * n) = B
      have hBl : B.length = 2 * n := by rw [← hB, List.length_take]; omega
      have hBb : Bytes B := by intro x hx; rw [← hB] at hx; exact hb x (List.mem_of_mem_take hx)
      have hW := words_nonneg B true hBb
      have hr := rep_bound hW
      have hB0 : words true B = words true B := rfl
      rw [if_neg (by simp), if_pos (by omega), if_pos (by omega), if_pos (by omega), if_neg (by omega), if_pos (by omega), if_pos (by omega), if_pos (by omega), if_pos (by omega), if_pos (by omega), if_pos (by omega), if_pos (by omega), if_pos (by omega)]
      rw [inet B hBb (by omega) k (by omega)]
      simp only [Option.bind_some, List.length_cons, List.length_nil]
      rw [if_pos (by omega), if_pos (by omega)]
      have hset := words_swap B p q (by omega) (by omega)
      have b1 := byte_at hBb (2 * q)
      have b2 := byte_at hBb (2 * p)
      have b3 := byte_at hBb (2 * p + 1)
      have hB1 : Bytes (B.set (2 * p) (B.getD (2 * q) 0)) := bytes_set hBb b1.1 b1.2
      have b4 := byte_at hB1 (2 * q + 1)
      rw [inet _ (bytes_set (bytes_set (bytes_set hB1 b4.1 b4.2) b2.1 b2.2) b3.1 b3.2) (by simp; omega) k (by simp; omega)]
      simp only [Option.bind_some]
      rw [hset, if_pos rfl, if_pos (by omega), if_pos (by omega)]
      have hd : Bytes (B ++ [(65535 - rep (words true B)) / 256 % 256, (65535 - rep (words true B)) % 256]) := by
        intro x hx
        rcases List.mem_append.mp hx with h | h
        · exact hBb x h
        · simp at h
          rcases h with h | h <;> omega
      rw [inet _ hd (by simp; omega) k (by simp; omega)]
      simp only [Option.bind_some]
      have hwd : words true (B ++ [(65535 - rep (words true B)) / 256 % 256, (65535 - rep (words true B)) % 256]) = words true B + (65535 - rep (words true B)) := by
        rw [words_append, if_pos (by omega)]
        simp only [words]
        omega
      rw [hwd, rep_whole hW, if_pos (by omega), haw]
      rfl

end Go.Proofs.Ytgdbajadafhehaa.Pure
