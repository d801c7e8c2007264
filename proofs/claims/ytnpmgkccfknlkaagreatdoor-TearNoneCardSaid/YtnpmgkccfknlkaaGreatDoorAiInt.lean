/- The evaluator's quick arithmetic is the model's. No program is named here. -/
import Derived.Test.YtnpmgkccfknlkaaGreatDoorAiIr
namespace Go.AI

theorem wrap_i64 (n : Int) : IntKind.i64.wrap n = if n % 18446744073709551616 ≥ 9223372036854775808 then n % 18446744073709551616 - 18446744073709551616 else n % 18446744073709551616 := by
  simp [IntKind.wrap, IntKind.bits, IntKind.signed]
theorem wrap_i32 (n : Int) : IntKind.i32.wrap n = if n % 4294967296 ≥ 2147483648 then n % 4294967296 - 4294967296 else n % 4294967296 := by
  simp [IntKind.wrap, IntKind.bits, IntKind.signed]
theorem wrap_i16 (n : Int) : IntKind.i16.wrap n = if n % 65536 ≥ 32768 then n % 65536 - 65536 else n % 65536 := by
  simp [IntKind.wrap, IntKind.bits, IntKind.signed]
theorem wrap_i8 (n : Int) : IntKind.i8.wrap n = if n % 256 ≥ 128 then n % 256 - 256 else n % 256 := by
  simp [IntKind.wrap, IntKind.bits, IntKind.signed]
theorem wrap_u64 (n : Int) : IntKind.u64.wrap n = n % 18446744073709551616 := by
  simp [IntKind.wrap, IntKind.bits, IntKind.signed]
theorem wrap_u32 (n : Int) : IntKind.u32.wrap n = n % 4294967296 := by
  simp [IntKind.wrap, IntKind.bits, IntKind.signed]
theorem wrap_u16 (n : Int) : IntKind.u16.wrap n = n % 65536 := by
  simp [IntKind.wrap, IntKind.bits, IntKind.signed]
theorem wrap_u8 (n : Int) : IntKind.u8.wrap n = n % 256 := by
  simp [IntKind.wrap, IntKind.bits, IntKind.signed]

theorem blt_iff (a b : Nat) : Nat.blt a b = decide (a < b) := by
  rw [Bool.eq_iff_iff, Nat.blt_eq]; simp

theorem wrapF_nat (k : IntKind) (m : Nat) (h : m < half k) : k.wrap (m : Int) = m := by
  cases k <;> simp only [half] at h
  · rw [wrap_i8]; omega
  · rw [wrap_i16]; omega
  · rw [wrap_i32]; omega
  · rw [wrap_i64]; omega
  · rw [wrap_u8]; omega
  · rw [wrap_u16]; omega
  · rw [wrap_u32]; omega
  · rw [wrap_u64]; omega
theorem wrapF_neg (k : IntKind) (m : Nat) (hk : k = .i8 ∨ k = .i16 ∨ k = .i32 ∨ k = .i64) (h : m < half k) : k.wrap (Int.negSucc m) = Int.negSucc m := by
  rcases hk with rfl | rfl | rfl | rfl <;> simp only [half] at h <;> rw [Int.negSucc_eq]
  · rw [wrap_i8]; omega
  · rw [wrap_i16]; omega
  · rw [wrap_i32]; omega
  · rw [wrap_i64]; omega
theorem wrapF_eq (k : IntKind) (n : Int) : wrapF k n = k.wrap n := by
  unfold wrapF
  cases n with
  | ofNat m =>
    by_cases h : m < half k
    · have hb : Nat.blt m (half k) = true := by rw [blt_iff]; exact decide_eq_true h
      simp only [hb, cond_true]
      exact (wrapF_nat k m h).symm
    · have hb : Nat.blt m (half k) = false := by rw [blt_iff]; exact decide_eq_false h
      simp only [hb, cond_false]
      cases k
      · rfl
      · rfl
      · rfl
      · rfl
      · rw [wrap_u8]; show ((m % 256 : Nat) : Int) = (m : Int) % 256; omega
      · rw [wrap_u16]; show ((m % 65536 : Nat) : Int) = (m : Int) % 65536; omega
      · rw [wrap_u32]; show ((m % 4294967296 : Nat) : Int) = (m : Int) % 4294967296; omega
      · rw [wrap_u64]; show ((m % 18446744073709551616 : Nat) : Int) = (m : Int) % 18446744073709551616; omega
  | negSucc m =>
    by_cases h : m < half k
    · have hb : Nat.blt m (half k) = true := by rw [blt_iff]; exact decide_eq_true h
      simp only [hb, cond_true]
      cases k
      · exact (wrapF_neg _ m (by simp) h).symm
      · exact (wrapF_neg _ m (by simp) h).symm
      · exact (wrapF_neg _ m (by simp) h).symm
      · exact (wrapF_neg _ m (by simp) h).symm
      · rfl
      · rfl
      · rfl
      · rfl
    · have hb : Nat.blt m (half k) = false := by rw [blt_iff]; exact decide_eq_false h
      simp only [hb, cond_false]
      cases k <;> rfl

theorem iltF_eq (x y : Int) : iltF x y = decide (x < y) := by
  cases x <;> cases y <;> simp only [iltF, blt_iff, Int.ofNat_eq_natCast, Int.negSucc_eq] <;> simp <;> omega
theorem ieqF_eq (x y : Int) : ieqF x y = (x == y) := by
  cases x with
  | ofNat a => cases y with
    | ofNat b => simp only [ieqF, Int.ofNat_eq_natCast]; rw [Bool.eq_iff_iff, Nat.beq_eq]; simp only [beq_iff_eq]; omega
    | negSucc b => simp [ieqF]
  | negSucc a => cases y with
    | ofNat b => simp [ieqF]
    | negSucc b => simp only [ieqF]; rw [Bool.eq_iff_iff, Nat.beq_eq]; simp only [beq_iff_eq, Int.negSucc_eq]; omega

variable {P : Program} {w : World}

theorem bitsS_sound {op : BinOp} {k : IntKind} {x y r : Int} (h : bitsS op k x y = some r) : (Op.intBits op k x y).run P w = .ok (.int k r) w := by
  cases op <;> simp only [bitsS, Option.some.injEq, reduceCtorEq] at h <;> subst h <;> rfl

theorem full_bits (k : IntKind) : full k = 2 ^ k.bits := by cases k <;> rfl

theorem bitsF_eq {op : BinOp} {k : IntKind} {x y : Int} : bitsF op k x y = bitsS op k x y := by
  unfold bitsF
  split
  · rename_i a b
    by_cases h : a < full k ∧ b < full k
    · obtain ⟨h1, h2⟩ := h
      simp only [blt_iff, h1, h2, decide_true, Bool.and_self, cond_true, wrapF_eq]
      rw [full_bits] at h1 h2
      have ea : (BitVec.ofInt k.bits (Int.ofNat a)).toNat = a := by
        rw [Int.ofNat_eq_natCast, BitVec.ofInt_natCast, BitVec.toNat_ofNat, Nat.mod_eq_of_lt h1]
      have eb : (BitVec.ofInt k.bits (Int.ofNat b)).toNat = b := by
        rw [Int.ofNat_eq_natCast, BitVec.ofInt_natCast, BitVec.toNat_ofNat, Nat.mod_eq_of_lt h2]
      cases op <;> simp only [bitsS, BitVec.toNat_and, BitVec.toNat_or, BitVec.toNat_xor, BitVec.toNat_not, ea, eb] <;> try rfl
      rw [full_bits]; rfl
    · have : (Nat.blt a (full k) && Nat.blt b (full k)) = false := by
        simp only [blt_iff, Bool.and_eq_false_iff, decide_eq_false_iff_not]
        rcases Nat.lt_or_ge a (full k) with h' | h'
        · exact .inr fun h2 => h ⟨h', h2⟩
        · exact .inl (by omega)
      rw [this]; rfl
  · rfl

theorem shiftF_sound {op : BinOp} {k j : IntKind} {x y r : Int} (h : shiftF op k x y = some r) : (Op.shift op k x j y).run P w = .ok (.int k r) w := by
  unfold shiftF at h
  cases y with
  | negSucc n => simp at h
  | ofNat n =>
    have hn : ¬ (Int.ofNat n < 0) := by simp
    have hm : (bif Nat.blt n k.bits then n else k.bits) = min n k.bits := by
      rw [blt_iff]; by_cases hlt : n < k.bits <;> simp [hlt] <;> omega
    simp only [hm] at h
    simp only [Op.shift, hn, if_false]
    cases op <;> simp only [reduceCtorEq] at h
    · cases x with
      | ofNat a =>
        simp only [Option.some.injEq, wrapF_eq] at h
        subst h
        simp only [Int.toNat_natCast, Int.ofNat_eq_natCast, Sem.run_pure]
        rfl
      | negSucc a => simp only [Option.some.injEq] at h; subst h; rfl
    · cases x with
      | ofNat a =>
        simp only [Option.some.injEq] at h
        subst h
        simp only [Int.toNat_natCast, Int.ofNat_eq_natCast, Sem.run_pure]
        congr 2
        show ((a : Int).fdiv (2 ^ min n k.bits)) = ((a / 2 ^ min n k.bits : Nat) : Int)
        rw [Int.fdiv_eq_ediv_of_nonneg _ (Int.pow_nonneg (by decide))]
        simp
      | negSucc a => simp only [Option.some.injEq] at h; subst h; rfl

theorem divF_sound {op : BinOp} {k : IntKind} {x y r : Int} (h : divF op k x y = some r) : (Op.intDiv op k x y).run P w = .ok (.int k r) w := by
  unfold divF at h
  split at h
  · cases h
  · rename_i a b
    have hy : ¬ (Int.ofNat (b + 1) = 0) := by intro e; simp at e; omega
    simp only [Op.intDiv, hy, if_false]
    cases op <;> simp only [reduceCtorEq, Option.some.injEq] at h <;> subst h
    · rw [wrapF_eq]; rfl
    · rfl
  · rename_i h0 h1
    have hy : ¬ (y = 0) := fun e => h0 (by rw [e]; rfl)
    simp only [Op.intDiv, hy, if_false]
    cases op <;> simp only [reduceCtorEq, Option.some.injEq] at h <;> subst h <;> rfl

theorem intBin_sound {op : BinOp} {t : TypeId} {k j : IntKind} {x y : Int} {v : Value} (h : intBin op k x j y = some v) :
    (binOp op t (.int k x) (.int j y)).run P w = .ok v w ∧ ∀ ρ, FR ρ v v := by
  unfold intBin at h
  cases op <;> simp only [Option.map_eq_some_iff, Option.ite_none_right_eq_some, Option.some.injEq] at h
  all_goals (try (obtain ⟨rfl, rfl⟩ := h))
  all_goals (try (obtain ⟨r, hr, rfl⟩ := h))
  all_goals (try (obtain ⟨rfl, r, hr, rfl⟩ := h))
  all_goals refine ⟨?_, fun ρ => by constructor⟩
  all_goals simp only [binOp, ne_eq, not_true_eq_false, if_false, Op.intArith, Op.intCmp, wrapF_eq, ieqF_eq, iltF_eq]
  all_goals (try rfl)
  all_goals (try exact divF_sound hr)
  all_goals (try exact shiftF_sound hr)
  all_goals (try (rw [bitsF_eq] at hr; exact bitsS_sound hr))
  all_goals (simp only [Sem.run_pure]; congr 2; rw [Bool.eq_iff_iff]; simp <;> omega)

end Go.AI
