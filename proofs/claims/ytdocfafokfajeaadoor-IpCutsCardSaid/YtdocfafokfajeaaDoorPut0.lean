/- The plain side of ip.Put: a slice made with room, numbers laid as bytes, and the twenty bytes ahead. -/
import Derived.Test.YtdocfafokfajeaaDoorLeaf1
import Derived.Test.YtdocfafokfajeaaDoorInet
namespace Go.Proofs.YtdocfafokfajeaaDoor.PIp
open Go.RowKit Go.Proofs.YtdocfafokfajeaaDoorW.PrintWords Go.Proofs.YtdocfafokfajeaaDoorW.PrintLast Go.Proofs.YtdocfafokfajeaaDoorW.PrintMore
open Go.Proofs.YtdocfafokfajeaaDoor.Inet
set_option linter.unusedVariables false
set_option linter.unusedSimpArgs false

section
variable {P : Program} {ops : Array Oper} {rest : List Oper} {o : Oper} {a : Act} {Q : Exit → Act → World → Prop}
/-- make([]byte, n, c). -/
theorem R_make_cap {w0 W : World} (base e : Nat) (hgd : o.guard = none) (t : TypeId) (x y : Operand) (ho : o.op = .makeSlice t x y) (n c : Nat) (nI cI : Int) (hnI : nI = (n : Int)) (hcI : cI = (c : Int)) (hx : a.eval x = .int .i64 nI) (hy : a.eval y = .int .i64 cI) (hnc : n ≤ c)
    (ht : P.underlying t = some (.slice e)) (hinfo : (P.info? e).map (fun i => (i.zero, i.size, i.bytes)) = some (some (.int .u8 0), 1, 1)) (hc : c ≤ 281474976710656) (HB : Below base w0 W) (hbase : base ≤ W.heap.size) (g : Nat) (hg : W.heap.size = g)
    (h : ∀ w1, Kd.R (Kd.int .u8) e w1 base (fun _ => True) (.slice (some ⟨g, 0, none⟩) n c) (List.replicate n 0) → Below base w0 w1 → wpList P ops Q rest (a.put o.dst (.slice (some ⟨g, 0, none⟩) n c)) w1) : wpList P ops Q (o :: rest) a W := by
  subst hnI hcI hg
  obtain ⟨i0, hi, hzz⟩ := Option.map_eq_some_iff.1 hinfo
  simp only [Prod.mk.injEq] at hzz
  obtain ⟨hz0, hz1, hz2⟩ := hzz
  have hr := run_make (P := P) W t e i0 (.int .u8 0) ht hi hz0 .i64 .i64 (n : Int) (c : Int) (by omega) (by omega) (by rw [hz2]; omega) (by omega)
  simp only [Int.toNat_natCast] at hr
  rw [hz1, Nat.mul_one] at hr
  refine Kd.event_run (v := .slice (some ⟨W.heap.size, 0, none⟩) n c) (w1 := W.alloc (.cells (madeCells (Value.int .u8 0).cells c) e)) hgd (by simp [execOp, ho, hx, hy, hr]) (h _ ?_ (HB.alloc hbase _))
  have hrep := Kd.reps_made (R := Kd.M (Kd.int .u8) W base (fun _ => False)) (z := .int .u8 0) (size := 1) (z0 := (0 : Int)) rfl (by decide) rfl c
  rw [Nat.mul_one] at hrep
  have hfull : Kd.R (Kd.int .u8) e (W.alloc (.cells (madeCells (Value.int .u8 0).cells c) e)) base (fun _ => True) (.slice (some ⟨W.heap.size, 0, none⟩) c c) (List.replicate c 0) := by
    refine ⟨fun _ _ => trivial, (madeCells (Value.int .u8 0).cells c).toList, ?_, ?_⟩
    · have h2 := World.ownsRow_lit (base := base) (e := e) (size := 1) W (madeCells (Value.int .u8 0).cells c) c hbase (by unfold maxLen; omega) (by simp [size_madeCells])
      rw [List.length_replicate]
      exact h2
    · exact hrep.imp_ (fun p c hp => Kd.M_mono _ (fun k hk => hk.elim) (Kd.M_below hp (below_alloc (Below.refl _ _) _)))
  have ht := Kd.R_take (m := n) hfull (by simp; exact hnc)
  rw [List.take_replicate, Nat.min_eq_left hnc] at ht
  exact ht
end

theorem shr_i64 (n : Int) (j : Nat) (hj : j ≤ 64) : shr .i64 n (j : Int) = n / 2 ^ j := by
  unfold shr
  rw [Int.toNat_natCast]
  have : min j IntKind.i64.bits = j := Nat.min_eq_left (by simpa [IntKind.bits] using hj)
  rw [this]

theorem w_add0 (i : Nat) (h : i + 0 < 1000) : wrap64 ((i : Int) + 0) = (i : Int) := by unfold wrap64; omega
theorem w_add1 (i : Nat) (h : i + 1 < 1000) : wrap64 ((i : Int) + 1) = ((i + 1 : Nat) : Int) := by unfold wrap64; omega
theorem w_add2 (i : Nat) (h : i + 2 < 1000) : wrap64 ((i : Int) + 2) = ((i + 2 : Nat) : Int) := by unfold wrap64; omega
theorem w_add3 (i : Nat) (h : i + 3 < 1000) : wrap64 ((i : Int) + 3) = ((i + 3 : Nat) : Int) := by unfold wrap64; omega

theorem put2 (l : List Int) (i : Nat) (n : Int) (h : i + 2 ≤ l.length) (hl : l.length < 100) :
    ip_put.f 3 l i 2 n = some ((l.set i (n / 256 % 256)).set (i + 1) (n % 256)) := by
  have a0 := w_add0 i (by omega)
  have a1 := w_add1 i (by omega)
  have e0 : wrap64 (8 * wrap64 (wrap64 ((2 : Int) - 1) - 0)) = ((8 : Nat) : Int) := by unfold wrap64; omega
  have e1 : wrap64 (8 * wrap64 (wrap64 ((2 : Int) - 1) - 1)) = ((0 : Nat) : Int) := by unfold wrap64; omega
  have e2 : wrap64 ((0 : Int) + 1) = 1 := by unfold wrap64; omega
  have e3 : wrap64 ((1 : Int) + 1) = 2 := by unfold wrap64; omega
  simp only [ip_put.f, ip_put.l0, e0, e1, e2, e3, a0, a1, shr_i64 _ _ (by decide : 8 ≤ 64), shr_i64 _ _ (by decide : 0 ≤ 64), Int.toNat_natCast, List.length_set]
  clear e0 e1 e2 e3 a0 a1
  rw [if_pos (by decide), if_pos (by decide), if_pos (by omega), if_pos (by omega), if_pos (by decide), if_pos (by decide), if_pos (by omega), if_pos (by omega), if_neg (by decide)]
  simp

theorem put4 (l : List Int) (i : Nat) (n : Int) (h : i + 4 ≤ l.length) (hl : l.length < 100) :
    ip_put.f 5 l i 4 n = some ((((l.set i (n / 16777216 % 256)).set (i + 1) (n / 65536 % 256)).set (i + 2) (n / 256 % 256)).set (i + 3) (n % 256)) := by
  have a0 := w_add0 i (by omega)
  have a1 := w_add1 i (by omega)
  have a2 := w_add2 i (by omega)
  have a3 := w_add3 i (by omega)
  have e0 : wrap64 (8 * wrap64 (wrap64 ((4 : Int) - 1) - 0)) = ((24 : Nat) : Int) := by unfold wrap64; omega
  have e1 : wrap64 (8 * wrap64 (wrap64 ((4 : Int) - 1) - 1)) = ((16 : Nat) : Int) := by unfold wrap64; omega
  have e2 : wrap64 (8 * wrap64 (wrap64 ((4 : Int) - 1) - 2)) = ((8 : Nat) : Int) := by unfold wrap64; omega
  have e3 : wrap64 (8 * wrap64 (wrap64 ((4 : Int) - 1) - 3)) = ((0 : Nat) : Int) := by unfold wrap64; omega
  have f0 : wrap64 ((0 : Int) + 1) = 1 := by unfold wrap64; omega
  have f1 : wrap64 ((1 : Int) + 1) = 2 := by unfold wrap64; omega
  have f2 : wrap64 ((2 : Int) + 1) = 3 := by unfold wrap64; omega
  have f3 : wrap64 ((3 : Int) + 1) = 4 := by unfold wrap64; omega
  simp only [ip_put.f, ip_put.l0, e0, e1, e2, e3, f0, f1, f2, f3, a0, a1, a2, a3, shr_i64 _ _ (by decide : 24 ≤ 64), shr_i64 _ _ (by decide : 16 ≤ 64), shr_i64 _ _ (by decide : 8 ≤ 64), shr_i64 _ _ (by decide : 0 ≤ 64), Int.toNat_natCast, List.length_set]
  clear e0 e1 e2 e3 f0 f1 f2 f3 a0 a1 a2 a3
  rw [if_pos (by decide), if_pos (by decide), if_pos (by omega), if_pos (by omega), if_pos (by decide), if_pos (by decide), if_pos (by omega), if_pos (by omega), if_pos (by decide), if_pos (by decide), if_pos (by omega), if_pos (by omega), if_pos (by decide), if_pos (by decide), if_pos (by omega), if_pos (by omega), if_neg (by decide)]
  simp

/-- The first twenty bytes, the sum's two being q's. -/
def head (t p s d n q : Int) : List Int :=
  [69, 0, (20 + n) / 256 % 256, (20 + n) % 256, 0, 0, 0, 0, t, p, q / 256 % 256, q % 256, s / 16777216 % 256, s / 65536 % 256, s / 256 % 256, s % 256, d / 16777216 % 256, d / 65536 % 256, d / 256 % 256, d % 256]

theorem head_bytes (t p s d n q : Int) (h1 : 0 ≤ t) (h2 : t ≤ 255) (h3 : 0 ≤ p) (h4 : p ≤ 255) : Bytes (head t p s d n q) := by
  intro x hx
  simp only [head, List.mem_cons, List.not_mem_nil, or_false] at hx
  omega

/-- The sum of the first twenty bytes, with noughts in its own place. -/
def headSum (t p s d n : Int) : Int := 65535 - rep (words true (head t p s d n 0))

/-- Whether the numbers of a datagram are right. -/
def fits (t p s d : Int) : Bool := decide (0 ≤ t ∧ t ≤ 255 ∧ 0 ≤ p ∧ p ≤ 255 ∧ 0 ≤ s ∧ s ≤ 4294967295 ∧ 0 ≤ d ∧ d ≤ 4294967295)

/-- ip.Put. -/
def ip_Put.f (t p s d : Int) (l : List Int) : Option (List Int × Int) :=
  if fits t p s d = true then (if (l.length : Int) > 1024 then some ([], 6) else some (head t p s d l.length (headSum t p s d l.length) ++ l, 0)) else some ([], 1)

/-- The sum's walk told in closed form. -/
theorem inet_l (l : List Int) (hb : Bytes l) (hl : (l.length : Int) ≤ 140737488351232) (d : Nat) : ∀ (k i : Nat) (t : Int), l.length - i = d → i ≤ l.length → d < k → 0 ≤ t →
    sum_Inet.l0 k (rep t) l (l.length : Int) (i : Int) = some (65535 - rep (t + words (decide (i % 2 = 0)) (l.drop i))) := by
  induction d with
  | zero =>
    intro k i t hd hi hk ht
    obtain ⟨k, rfl⟩ : ∃ m, k = m + 1 := ⟨k - 1, by omega⟩
    have hr := rep_bound ht
    have hn : l.drop i = [] := List.drop_eq_nil_of_le (by omega)
    simp only [sum_Inet.l0]
    rw [if_neg (by omega), hn]
    have hw : ∀ e, words e [] = 0 := fun e => by cases e <;> rfl
    rw [hw, Int.add_zero]
    congr 1
    unfold wrap64; omega
  | succ d ih =>
    intro k i t hd hi hk ht
    obtain ⟨k, rfl⟩ : ∃ m, k = m + 1 := ⟨k - 1, by omega⟩
    have hr := rep_bound ht
    have hlt : i < l.length := by omega
    have hrd : rd l (i : Int) = l[i] := by simp [rd, List.getD_eq_getElem?_getD, hlt]
    have hx := hb l[i] (List.getElem_mem hlt)
    have hdrop : l.drop i = l[i] :: l.drop (i + 1) := List.drop_eq_getElem_cons hlt
    simp only [sum_Inet.l0]
    rw [if_pos (by omega), if_pos (by omega), if_pos (by omega), hrd]
    have hi1 : wrap64 ((i : Int) + 1) = ((i + 1 : Nat) : Int) := by unfold wrap64; omega
    rw [hi1]
    have hw1 : wrap64 l[i] = l[i] := by unfold wrap64; omega
    have hw2 : wrap64 (l[i] * 256) = l[i] * 256 := by unfold wrap64; omega
    rw [hw1, hw2]
    have hs1 : wrap64 (rep t + l[i] * 256) = rep t + l[i] * 256 := by unfold wrap64; omega
    have hs2 : wrap64 (rep t + l[i]) = rep t + l[i] := by unfold wrap64; omega
    rw [hs1, hs2, and_mask (by omega) (by omega), and_mask (by omega) (by omega)]
    have htm : Int.tmod (i : Int) 2 = (i : Int) % 2 := Int.tmod_eq_emod_of_nonneg (by omega)
    rw [htm]
    by_cases he : i % 2 = 0
    · rw [if_pos (by omega)]
      have hf := rep_fold (s := t) (v := l[i] * 256) ht (by omega) (by omega)
      have hb2 := rep_bound (s := t + l[i] * 256) (by omega)
      rw [hf]
      have hw3 : wrap64 (rep (t + l[i] * 256)) = rep (t + l[i] * 256) := by unfold wrap64; omega
      rw [hw3, ih k (i + 1) (t + l[i] * 256) (by omega) (by omega) (by omega) (by omega), hdrop]
      have e1 : decide (i % 2 = 0) = true := decide_eq_true he
      have e2 : decide ((i + 1) % 2 = 0) = false := decide_eq_false (by omega)
      rw [e1, e2]; simp only [words]; rw [Int.add_assoc]
    · rw [if_neg (by omega)]
      have hf := rep_fold (s := t) (v := l[i]) ht (by omega) (by omega)
      have hb2 := rep_bound (s := t + l[i]) (by omega)
      rw [hf]
      have hw3 : wrap64 (rep (t + l[i])) = rep (t + l[i]) := by unfold wrap64; omega
      rw [hw3, ih k (i + 1) (t + l[i]) (by omega) (by omega) (by omega) (by omega), hdrop]
      have e1 : decide (i % 2 = 0) = false := decide_eq_false he
      have e2 : decide ((i + 1) % 2 = 0) = true := decide_eq_true (by omega)
      rw [e1, e2]; simp only [words]; rw [Int.add_assoc]

theorem inet (l : List Int) (hb : Bytes l) (hl : (l.length : Int) ≤ 140737488351232) (k : Nat) (hk : l.length < k) :
    sum_Inet.f k l = some (65535 - rep (words true l)) := by
  have h := inet_l l hb hl l.length k 0 0 (by omega) (by omega) hk (by omega)
  simpa [sum_Inet.f, rep] using h

end Go.Proofs.YtdocfafokfajeaaDoor.PIp
