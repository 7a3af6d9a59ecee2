/- Plain arithmetic of the ones' complement sum: the rounds of sum.Inet come to the rest of the sum of words. -/
import Derived.Laws.BitsLemmas
import Derived.Test.YtdocfafokfajeaaDoorWWords
namespace Go.Proofs.YtdocfafokfajeaaDoor.Inet
open Go.RowKit Go.Proofs.YtdocfafokfajeaaDoorW.PrintWords
set_option linter.unusedVariables false
set_option linter.unusedSimpArgs false

/-- Bytes. -/
def Bytes (l : List Int) : Prop := ∀ x ∈ l, 0 ≤ x ∧ x < 256

theorem bytes_of {l : List Int} (h : ∀ x ∈ l, (Lit.int .u8 x).wf = true) : Bytes l := by
  intro x hx
  have := h x hx
  simp [Lit.wf, IntKind.min, IntKind.max, IntKind.bits, IntKind.signed] at this
  omega

/-- The sum of words, the first byte high where 'e'. -/
def words : Bool → List Int → Int
  | _, [] => 0
  | true, x :: l => x * 256 + words false l
  | false, x :: l => x + words true l

/-- The rest of a sum: 0 at 0 alone, else from 1 to 65535. -/
def rep (t : Int) : Int := if t = 0 then 0 else (t - 1) % 65535 + 1

theorem rep_fold {s v : Int} (hs : 0 ≤ s) (hv : 0 ≤ v) (hv' : v ≤ 65535) : (rep s + v) % 65536 + (rep s + v) / 65536 = rep (s + v) := by
  unfold rep
  split <;> split <;> omega

theorem rep_bound {s : Int} (hs : 0 ≤ s) : 0 ≤ rep s ∧ rep s ≤ 65535 := by
  unfold rep
  split <;> omega

theorem words_nonneg : ∀ (l : List Int) (e : Bool), Bytes l → 0 ≤ words e l
  | [], e, _ => by cases e <;> simp [words]
  | x :: l, e, h => by
    have hx := h x (by simp)
    have h1 := words_nonneg l (!e) (fun y hy => h y (by simp [hy]))
    cases e <;> simp [words] at h1 ⊢ <;> omega

theorem and_mask {x : Int} (h0 : 0 ≤ x) (h1 : x < 2 ^ 62) : Go.bits .and .i64 x 65535 = x % 65536 :=
  bits_mask .i64 62 (by decide) (fun n a b => by rw [IntKind.wrap_i64]; omega) 16 (by decide) x h0 h1

/-- One round of the sum. -/
def turn (e : Bool) (s x : Int) : Int :=
  if e then (s + x * 256) % 65536 + (s + x * 256) / 65536 else (s + x) % 65536 + (s + x) / 65536

theorem turn_rep {e : Bool} {t x : Int} (ht : 0 ≤ t) (hx : 0 ≤ x) (hx' : x < 256) : turn e (rep t) x = rep (t + if e then x * 256 else x) := by
  unfold turn
  cases e
  · simpa using rep_fold ht hx (by omega)
  · simpa using rep_fold (v := x * 256) ht (by omega) (by omega)

theorem words_append : ∀ (l m : List Int) (e : Bool), words e (l ++ m) = words e l + words (if l.length % 2 = 0 then e else !e) m
  | [], m, e => by simp [words]
  | x :: l, m, e => by
    have h := words_append l m (!e)
    cases e <;> simp only [Bool.not_true, Bool.not_false] at h <;> simp only [List.cons_append, words, h, List.length_cons] <;>
      by_cases c : l.length % 2 = 0 <;> simp [c, show ((l.length + 1) % 2 = 0) = (¬ l.length % 2 = 0) by simp; omega] <;> omega

theorem words_zeros (n : Nat) : ∀ e, words e (List.replicate n 0) = 0 := by
  induction n with
  | zero => intro e; cases e <;> rfl
  | succ n ih => intro e; cases e <;> simp [List.replicate_succ, words, ih]

theorem rd_byte {l : List Int} (h : Bytes l) (i : Int) : 0 ≤ rd l i ∧ rd l i < 256 := by
  unfold rd
  rw [List.getD_eq_getElem?_getD]
  cases hh : l[i.toNat]? with
  | none => simp
  | some x => exact h x (List.mem_of_getElem? hh)

/-- A byte set behind a number. -/
theorem or_step {n x : Int} (h0 : 0 ≤ n) (h1 : n < 2 ^ 40) (hx : 0 ≤ x) (hx1 : x < 256) : bits .or .i64 (wrap64 (n * 256)) (wrap64 x) = n * 256 + x := by
  have e1 : wrap64 (n * 256) = n * 256 := by unfold wrap64; omega
  have e2 : wrap64 x = x := by unfold wrap64; omega
  rw [e1, e2]
  exact bits_join .i64 62 (by decide) (fun n a b => by rw [IntKind.wrap_i64]; omega) 8 (n * 256) x (by omega) (by omega) (by omega) (by omega) (by omega) (by omega)
theorem or_zero {x : Int} (hx : 0 ≤ x) (hx1 : x < 256) : bits .or .i64 0 (wrap64 x) = x := by
  have h := or_step (n := 0) (by omega) (by omega) hx hx1
  have e : wrap64 (0 * 256) = 0 := by unfold wrap64; omega
  rw [e] at h
  omega

/-- Two, and four, bytes as a number. -/
def be2 (l : List Int) (at_ : Int) : Int := rd l at_ * 256 + rd l (at_ + 1)
def be4 (l : List Int) (at_ : Int) : Int := ((rd l at_ * 256 + rd l (at_ + 1)) * 256 + rd l (at_ + 2)) * 256 + rd l (at_ + 3)

theorem or2 {l : List Int} (h : Bytes l) (i j : Int) :
    bits .or .i64 (wrap64 (bits .or .i64 0 (wrap64 (rd l i)) * 256)) (wrap64 (rd l j)) = rd l i * 256 + rd l j := by
  have a := rd_byte h i
  have b := rd_byte h j
  rw [or_zero a.1 a.2, or_step (by omega) (by omega) b.1 b.2]
theorem or4 {l : List Int} (h : Bytes l) (i j k m : Int) :
    bits .or .i64 (wrap64 (bits .or .i64 (wrap64 (bits .or .i64 (wrap64 (bits .or .i64 0 (wrap64 (rd l i)) * 256)) (wrap64 (rd l j)) * 256)) (wrap64 (rd l k)) * 256)) (wrap64 (rd l m)) = ((rd l i * 256 + rd l j) * 256 + rd l k) * 256 + rd l m := by
  have a := rd_byte h i
  have b := rd_byte h j
  have c := rd_byte h k
  have d := rd_byte h m
  rw [or2 h, or_step (by omega) (by omega) c.1 c.2, or_step (by omega) (by omega) d.1 d.2]

end Go.Proofs.YtdocfafokfajeaaDoor.Inet
