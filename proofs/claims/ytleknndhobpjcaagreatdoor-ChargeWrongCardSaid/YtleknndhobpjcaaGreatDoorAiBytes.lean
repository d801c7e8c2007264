/- A page's bytes in its number: what stands where some are laid; plain numbers. No program is named here. -/
import Derived.Test.YtleknndhobpjcaaGreatDoorAiArSpec
namespace Go.AI

theorem byteN_bit (P i j : Nat) : (byteN P i).testBit j = (decide (j < 8) && P.testBit (8 * i + j)) := by
  show (Nat.land (P >>> (8 * i)) 255).testBit j = _
  have : Nat.land (P >>> (8 * i)) 255 = (P >>> (8 * i)) &&& (2 ^ 8 - 1) := rfl
  rw [this, Nat.testBit_and, Nat.testBit_shiftRight, Nat.testBit_two_pow_sub_one, Bool.and_comm]
theorem byteN_lt (P i : Nat) : byteN P i < 256 := by
  show Nat.land (P >>> (8 * i)) 255 < 256
  have h : Nat.land (P >>> (8 * i)) 255 = (P >>> (8 * i)) &&& 255 := rfl
  rw [h]
  exact Nat.lt_of_le_of_lt Nat.and_le_right (by decide)
theorem set_bit {P off k v : Nat} (hv : v < 2 ^ (8 * k)) (b : Nat) : (setBytes P off k v).testBit b = if 8 * off ≤ b ∧ b < 8 * (off + k) then v.testBit (b - 8 * off) else P.testBit b := by
  have h : setBytes P off k v = (P % 2 ^ (8 * off) ||| v <<< (8 * off)) ||| (P >>> (8 * (off + k))) <<< (8 * (off + k)) := rfl
  rw [h, Nat.testBit_or, Nat.testBit_or, Nat.testBit_mod_two_pow, Nat.testBit_shiftLeft, Nat.testBit_shiftLeft, Nat.testBit_shiftRight]
  have hz : ∀ c, 8 * k ≤ c → v.testBit c = false := fun c hc => Nat.testBit_lt_two_pow (Nat.lt_of_lt_of_le hv (Nat.pow_le_pow_right (by decide) hc))
  by_cases h1 : 8 * off ≤ b
  · by_cases h2 : b < 8 * (off + k)
    · rw [if_pos ⟨h1, h2⟩]
      have h3 : ¬ b < 8 * off := by omega
      have h4 : ¬ b ≥ 8 * (off + k) := by omega
      simp only [decide_eq_false h3, decide_eq_true (show b ≥ 8 * off from h1), decide_eq_false h4, Bool.false_and, Bool.true_and, Bool.false_or, Bool.or_false]
    · rw [if_neg (fun h => h2 h.2)]
      have h3 : ¬ b < 8 * off := by omega
      have h4 : b ≥ 8 * (off + k) := by omega
      rw [hz (b - 8 * off) (by omega)]
      simp only [decide_eq_false h3, decide_eq_true h4, Bool.false_and, Bool.true_and, Bool.false_or, Bool.and_false]
      rw [show 8 * (off + k) + (b - 8 * (off + k)) = b by omega]
  · rw [if_neg (fun h => h1 h.1)]
    have h3 : b < 8 * off := by omega
    have h4 : ¬ b ≥ 8 * (off + k) := by omega
    simp only [decide_eq_true h3, decide_eq_false (show ¬ b ≥ 8 * off from h1), decide_eq_false h4, Bool.false_and, Bool.true_and, Bool.or_false]
theorem byte_set {P off k v : Nat} (hv : v < 2 ^ (8 * k)) (i : Nat) : byteN (setBytes P off k v) i = if off ≤ i ∧ i < off + k then byteN v (i - off) else byteN P i := by
  apply Nat.eq_of_testBit_eq
  intro j
  rw [byteN_bit, set_bit hv]
  by_cases hj : j < 8
  · by_cases hc : off ≤ i ∧ i < off + k
    · rw [if_pos hc, if_pos (by omega), byteN_bit, show 8 * (i - off) + j = 8 * i + j - 8 * off by omega]
    · rw [if_neg hc, if_neg (by omega), byteN_bit]
  · simp only [decide_eq_false hj, Bool.false_and]
    split <;> rw [byteN_bit, decide_eq_false hj, Bool.false_and]

theorem numOf_lt : ∀ (l : List UInt8), numOf l < 2 ^ (8 * l.length)
  | [] => by simp [numOf]
  | b :: r => by
    have ih := numOf_lt r
    have hb := b.toNat_lt
    show b.toNat + 256 * numOf r < 2 ^ (8 * (r.length + 1))
    rw [show 8 * (r.length + 1) = 8 * r.length + 8 by omega, Nat.pow_add]
    omega
theorem byteN_div (x i : Nat) : byteN x i = x / 256 ^ i % 256 := by
  show Nat.land (x >>> (8 * i)) 255 = _
  have h : Nat.land (x >>> (8 * i)) 255 = (x >>> (8 * i)) &&& (2 ^ 8 - 1) := rfl
  rw [h, Nat.and_two_pow_sub_one_eq_mod, Nat.shiftRight_eq_div_pow, show (256 : Nat) ^ i = 2 ^ (8 * i) by rw [Nat.pow_mul]]
theorem byte_num : ∀ (l : List UInt8) (i : Nat) (b : UInt8), l[i]? = some b → byteN (numOf l) i = b.toNat
  | [], i, b, h => by simp at h
  | c :: r, 0, b, h => by
    simp only [List.getElem?_cons_zero, Option.some.injEq] at h; subst h
    have hb := c.toNat_lt
    rw [byteN_div]
    show (c.toNat + 256 * numOf r) / 256 ^ 0 % 256 = _
    simp only [Nat.pow_zero, Nat.div_one]; omega
  | c :: r, i + 1, b, h => by
    have hb := c.toNat_lt
    have ih := byte_num r i b (by simpa using h)
    rw [byteN_div] at ih ⊢
    show (c.toNat + 256 * numOf r) / 256 ^ (i + 1) % 256 = _
    rw [Nat.pow_succ, Nat.mul_comm (256 ^ i) 256, ← Nat.div_div_eq_div_mul, show (c.toNat + 256 * numOf r) / 256 = numOf r by omega]
    exact ih
theorem fill_lt {b : Nat} (hb : b < 256) (k : Nat) : fillV b k < 2 ^ (8 * k) := by
  have h : fillV b k = b * ((256 ^ k - 1) / 255) := rfl
  rw [h, show 2 ^ (8 * k) = 256 ^ k by rw [Nat.pow_mul]]
  have h1 : (256 ^ k - 1) / 255 * 255 ≤ 256 ^ k - 1 := Nat.div_mul_le_self _ _
  have h2 : b * ((256 ^ k - 1) / 255) ≤ 255 * ((256 ^ k - 1) / 255) := Nat.mul_le_mul_right _ (by omega)
  have h3 := Nat.pow_pos (n := k) (show 0 < 256 by decide)
  omega
theorem fill_succ (b k : Nat) : fillV b (k + 1) = b + 256 * fillV b k := by
  have h : ∀ k, fillV b k = b * ((256 ^ k - 1) / 255) := fun _ => rfl
  rw [h, h]
  have hg : ∀ k, 256 ^ k - 1 = 255 * ((256 ^ k - 1) / 255) := by
    intro k
    induction k with
    | zero => rfl
    | succ k ih =>
      rw [Nat.pow_succ]
      have h3 := Nat.pow_pos (n := k) (show 0 < 256 by decide)
      omega
  have e : (256 ^ (k + 1) - 1) / 255 = 1 + 256 * ((256 ^ k - 1) / 255) := by
    have h1 := hg k
    rw [Nat.pow_succ]
    have h3 := Nat.pow_pos (n := k) (show 0 < 256 by decide)
    omega
  rw [e, Nat.mul_add, Nat.mul_one, Nat.mul_left_comm]
theorem byte_fill {b : Nat} (hb : b < 256) : ∀ (k i : Nat), i < k → byteN (fillV b k) i = b
  | 0, i, h => by omega
  | k + 1, 0, _ => by
    rw [byteN_div, fill_succ]; simp only [Nat.pow_zero, Nat.div_one]; omega
  | k + 1, i + 1, h => by
    have ih := byte_fill hb k i (by omega)
    rw [byteN_div] at ih ⊢
    rw [fill_succ, Nat.pow_succ, Nat.mul_comm (256 ^ i) 256, ← Nat.div_div_eq_div_mul, show (b + 256 * fillV b k) / 256 = fillV b k by omega]
    exact ih
end Go.AI
