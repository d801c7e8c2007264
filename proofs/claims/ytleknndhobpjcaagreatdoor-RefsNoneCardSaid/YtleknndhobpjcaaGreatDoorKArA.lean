/- What the arena's functions do upon its parts. -/
import Derived.Test.YtleknndhobpjcaaGreatDoorAiPop
import Derived.Test.YtleknndhobpjcaaGreatDoorIfn
import Derived.Test.YtleknndhobpjcaaGreatDoorAiArSpec
import Derived.Test.YtleknndhobpjcaaGreatDoorAiBytes
namespace Go.AI
open Go.Proofs
variable {hk : Hook Empty}
/-- At the lower level. -/
noncomputable def RA (n : Nat) : CallFn Empty := run FA (fun _ => false) hk n

theorem whole_run {n : Nat} {x : Int} {h : Hp Empty} (h0 : hk 296 = none) : ∃ v h', RA (hk := hk) (n + 1) 296 [.int .i64 x] h = some (v, h') ∧ (v = .bool (decide (x = 1 ∨ x = 2 ∨ x = 4 ∨ x = 8)) ∧ h' = h) := by
  refine run_fn h0 f296 (by simp [i296]) ?_
  dsimp only [i296, argsE]
  repeat' first
    | with_reducible refine WC.seq ?_
    | with_reducible refine WC.ops ?_
    | with_reducible refine WC.ret ?_
    | with_reducible refine WC.skip ?_
    | with_reducible refine thenC_norm ?_
    | with_reducible refine thenC_ret ?_
    | with_reducible refine WO.nil ?_
    | refine WO.mv rfl ?_
    | refine WO.eqlS rfl rfl (fun _ => ?_) (fun _ => ?_)
    | refine WO.skip rfl rfl ?_
    | refine WO.take rfl rfl ?_
    | refine WO.pure rfl ?_
  all_goals refine ⟨_, _, rfl, rfl, ?_, rfl⟩
  all_goals simp only [Int.ofNat_eq_natCast] at *
  all_goals (congr 1; symm; first | (rw [decide_eq_true_eq]; omega) | (rw [decide_eq_false_iff_not]; omega))

theorem within_run {n : Nat} {L a k : Int} {s : Value} {h : Hp Empty} (h0 : hk 297 = none) (hL : 0 ≤ L) (hL2 : L ≤ 1048576) (hf : Fresh h.tbl h.next) :
    ∃ v h', RA (hk := hk) (n + 1) 297 [.agg ⟨[.int .i64 L, s]⟩, .int .i64 a, .int .i64 k] h = some (v, h') ∧ (v = .bool (decide (0 ≤ a ∧ 0 ≤ k ∧ k ≤ L ∧ a ≤ L - k)) ∧ Keep h.tbl h.next h'.tbl h'.next) := by
  refine run_fn h0 f297 (by simp [i297]) ?_
  dsimp only [i297, argsE]
  repeat' first
    | with_reducible refine WC.seq ?_
    | with_reducible refine WC.ops ?_
    | with_reducible refine WC.ret ?_
    | with_reducible refine WC.skip ?_
    | with_reducible refine WC.block ?_
    | with_reducible refine WC.exit ?_
    | with_reducible refine thenC_norm ?_
    | with_reducible refine thenC_ret ?_
    | with_reducible refine thenC_exit ?_
    | with_reducible refine blockC_norm ?_
    | with_reducible refine blockC_ret ?_
    | with_reducible refine blockC_exit ?_
    | with_reducible refine WO.nil ?_
    | refine WO.mv (by first | rfl | assumption) ?_
    | refine WO.eqlS (by first | rfl | assumption) (by first | rfl | assumption) (fun _ => ?_) (fun _ => ?_)
    | refine WO.neqS (by first | rfl | assumption) (by first | rfl | assumption) (fun _ => ?_) (fun _ => ?_)
    | refine WO.lssS (by first | rfl | assumption) (by first | rfl | assumption) (fun _ => ?_) (fun _ => ?_)
    | refine WO.gtrS (by first | rfl | assumption) (by first | rfl | assumption) (fun _ => ?_) (fun _ => ?_)
    | refine WO.leqS (by first | rfl | assumption) (by first | rfl | assumption) (fun _ => ?_) (fun _ => ?_)
    | refine WO.geqS (by first | rfl | assumption) (by first | rfl | assumption) (fun _ => ?_) (fun _ => ?_)
    | refine WO.skip rfl rfl ?_
    | refine WO.take rfl rfl ?_
    | refine WC.cond_true (by first | rfl | assumption) ?_
    | refine WC.cond_false (by first | rfl | assumption) ?_
    | refine WO.add (by first | rfl | assumption) (by first | rfl | assumption) (by simp only [Int.ofNat_eq_natCast] at *; omega) (by simp only [Int.ofNat_eq_natCast] at *; omega) ?_
    | refine WO.sub (by first | rfl | assumption) (by first | rfl | assumption) (by simp only [Int.ofNat_eq_natCast] at *; omega) (by simp only [Int.ofNat_eq_natCast] at *; omega) ?_
    | refine WO.box (by first | rfl | assumption) rfl ?_
    | refine WO.new ?_
    | refine WO.load (by first | rfl | assumption) (by first | exact look_new | assumption) rfl rfl rfl ?_
    | refine WO.pure rfl ?_
  all_goals refine ⟨_, _, rfl, rfl, ?_, Keep.new hf _⟩
  all_goals simp only [Int.ofNat_eq_natCast] at *
  all_goals (congr 1; symm; first | (rw [decide_eq_true_eq]; omega) | (rw [decide_eq_false_iff_not]; omega))

theorem and127 {x : Nat} (hx : x < 18446744073709551616) : bitsF .and .i64 (wrapF .i64 (Int.ofNat x)) (Int.ofNat 127) = some (Int.ofNat (x % 128)) := by
  rw [bitsF_eq, wrapF_eq]
  simp only [bitsS]
  have h1 : BitVec.ofInt IntKind.i64.bits (IntKind.i64.wrap (Int.ofNat x)) = BitVec.ofNat 64 x := by
    show BitVec.ofInt 64 (IntKind.i64.wrap (Int.ofNat x)) = BitVec.ofNat 64 x
    rw [wrap_i64]
    apply BitVec.eq_of_toNat_eq
    rw [BitVec.toNat_ofInt, BitVec.toNat_ofNat]
    simp only [Int.ofNat_eq_natCast]
    split <;> omega
  have h2 : BitVec.ofInt IntKind.i64.bits (Int.ofNat 127) = BitVec.ofNat 64 127 := rfl
  rw [h1, h2]
  have h3 : (BitVec.ofNat 64 x &&& BitVec.ofNat 64 127).toNat = x % 128 := by
    rw [BitVec.toNat_and, BitVec.toNat_ofNat, BitVec.toNat_ofNat, Nat.mod_eq_of_lt hx]
    exact Nat.and_two_pow_sub_one_eq_mod x 7
  show some (IntKind.i64.wrap ((BitVec.ofNat 64 x &&& BitVec.ofNat 64 127).toNat : Int)) = _
  rw [h3]
  congr 1
  exact wrapF_nat .i64 _ (by show x % 128 < 9223372036854775808; omega)

theorem WO.and127 {X : Type} {call : CallFn X} {env : List (Nat × Value)} {m : Mem X} {K : List (Nat × Value) → Mem X → Prop} {l : List (Option (Nat × Bool) × IOp)} {d : Nat} {e : EqK} {x : Opd} {a : Nat} (hx : evo env x = some (.int .i64 (wrapF .i64 (Int.ofNat a)))) (ha : a < 18446744073709551616)
    (k : WO call l ((d, .int .i64 (Int.ofNat (a % 128))) :: env) m K) : WO call ((none, .pure d (.bin .and e x (.c (.int .i64 (.ofNat 127))))) :: l) env m K := by
  refine .pure ?_ k
  have h2 : evo env (.c (.int .i64 (Int.ofNat 127))) = some (.int .i64 (Int.ofNat 127)) := rfl
  simp only [peval, hx, h2, binVal, intBin, if_true, AI.and127 ha, Option.map]

theorem ones_run {n x : Nat} {h : Hp Empty} (h0 : hk 299 = none) (hx : x < 18446744073709551616) : RA (hk := hk) (n + 1) 299 [.int .u64 (Int.ofNat x)] h = some (.int .i64 (Int.ofNat (pc x 0 64)), h) := by
  obtain ⟨hs, l1, l2⟩ := ones_eq x hx
  have key : ∃ v h', RA (hk := hk) (n + 1) 299 [.int .u64 (Int.ofNat x)] h = some (v, h') ∧ (v = .int .i64 (Int.ofNat (pc x 0 64)) ∧ h' = h) := by
    refine run_fn h0 f299 (by simp [i299]) ?_
    dsimp only [i299, argsE]
    repeat' first
      | with_reducible refine WC.seq ?_
      | with_reducible refine WC.ops ?_
      | with_reducible refine WC.ret ?_
      | with_reducible refine thenC_norm ?_
      | with_reducible refine WO.nil ?_
      | refine WO.mv rfl ?_
      | refine WO.shrU rfl rfl (by decide) ?_
      | refine WO.and127 rfl (Nat.mod_lt _ (by decide)) ?_
      | refine WO.andU rfl rfl (by first | assumption | exact Nat.lt_of_le_of_lt (Nat.div_le_self _ _) (by first | assumption | exact Nat.mod_lt _ (by decide)) | exact Nat.mod_lt _ (by decide)) (by decide) ?_
      | refine WO.addU rfl rfl ?_
      | refine WO.pure rfl ?_
    refine ⟨_, _, rfl, rfl, ?_, rfl⟩
    show Value.int .i64 (Int.ofNat _) = _
    rw [← hs]
  obtain ⟨v, h', e, rfl, rfl⟩ := key
  exact e

/-- Of a word, the bits that a row has there. -/
def maskN (a k : Nat) : Nat := (2 ^ k - 1) * 2 ^ (a % 64)
def stepN (a n : Nat) : Nat := min n (64 - a % 64)

theorem mask_lt {a n : Nat} : maskN a (stepN a n) < 18446744073709551616 := by
  unfold maskN
  have h1 : stepN a n + a % 64 ≤ 64 := by unfold stepN; omega
  have h2 : (2 ^ stepN a n - 1) * 2 ^ (a % 64) < 2 ^ stepN a n * 2 ^ (a % 64) := Nat.mul_lt_mul_of_pos_right (by have := Nat.two_pow_pos (stepN a n); omega) (Nat.two_pow_pos _)
  rw [← Nat.pow_add] at h2
  exact Nat.lt_of_lt_of_le h2 (Nat.pow_le_pow_right (by decide) h1)

theorem mask_run {n a k : Nat} {h : Hp Empty} (h0 : hk 298 = none) (_ha : a < 4611686018427387904) (hn : k < 4611686018427387904) : RA (hk := hk) (n + 1) 298 [.int .i64 (Int.ofNat a), .int .i64 (Int.ofNat k)] h = some (.tuple ⟨[.int .u64 (Int.ofNat (maskN a (stepN a k))), .int .i64 (Int.ofNat (stepN a k))]⟩, h) := by
  have key : ∃ v h', RA (hk := hk) (n + 1) 298 [.int .i64 (Int.ofNat a), .int .i64 (Int.ofNat k)] h = some (v, h') ∧ (v = .tuple ⟨[.int .u64 (Int.ofNat (maskN a (stepN a k))), .int .i64 (Int.ofNat (stepN a k))]⟩ ∧ h' = h) := by
    refine run_fn h0 f298 (by simp [i298]) ?_
    dsimp only [i298, argsE]
    refine WC.seq (WC.ops (WO.mv rfl (WO.mv rfl (WO.nil (thenC_norm (WC.seq (WC.ops ?_)))))))
    refine WO.mv rfl (WO.mv rfl (WO.rem rfl rfl (WO.sub rfl rfl (by simp only [Int.ofNat_eq_natCast]; omega) (by simp only [Int.ofNat_eq_natCast]; omega) (WO.min2 rfl rfl ?_))))
    refine WO.as (b := Int.ofNat (stepN a k)) (by unfold stepN; simp only [Int.ofNat_eq_natCast]; omega) ?_
    refine WO.mv rfl (WO.nil (thenC_norm (WC.seq (WC.ops ?_))))
    have hs : stepN a k ≤ 64 := by unfold stepN; omega
    refine WO.mv rfl (WO.shlU rfl rfl hs (WO.subU rfl rfl (by decide) ?_))
    refine WO.as (b := Int.ofNat (2 ^ stepN a k - 1)) ?_ ?_
    · refine congrArg Int.ofNat ?_
      have h1 := Nat.two_pow_pos (stepN a k)
      have h2 : 2 ^ stepN a k ≤ 2 ^ 64 := Nat.pow_le_pow_right (by decide) hs
      omega
    refine WO.mv rfl (WO.rem rfl rfl (WO.shlU rfl rfl (by omega) ?_))
    refine WO.as (b := Int.ofNat (maskN a (stepN a k))) ?_ ?_
    · refine congrArg Int.ofNat ?_
      exact Nat.mod_eq_of_lt mask_lt
    refine WO.mv rfl (WO.mv rfl (WO.mv rfl (WO.nil (thenC_norm (WC.ret ?_)))))
    exact ⟨_, _, rfl, rfl, rfl, rfl⟩
  obtain ⟨v, h', e, rfl, rfl⟩ := key
  exact e

/-- A set's words. -/
def WordsAt (t : List (Nat × AObj Empty)) (W s nw : Nat) : Prop := ∃ ob, look W t = some ob ∧ cellsO ob = some ((List.range nw).map (wordV s))
theorem WordsAt.keep {t t' : List (Nat × AObj Empty)} {n n' W s nw : Nat} (h : WordsAt t W s nw) (k : Keep t n t' n') (hW : W < n) : WordsAt t' W s nw := by
  obtain ⟨ob, h1, h2⟩ := h
  exact ⟨ob, (k.same W hW).trans h1, h2⟩

theorem word_take {s nw q : Nat} (hq : q < nw) : takeN ((List.range nw).map (wordV s)) q 1 = some [wordV s q] := by
  have h : (((List.range nw).map (wordV s)).drop q).take 1 = [wordV s q] := by
    rw [← List.map_drop, ← List.map_take]
    have : ((List.range nw).drop q).take 1 = [q] := by
      apply List.ext_getElem?
      intro i
      rw [List.getElem?_take]
      by_cases hi : i < 1
      · have : i = 0 := by omega
        subst this
        simp [hq]
      · simp [hi]
    rw [this]; rfl
  simp only [takeN, h]; rfl

theorem pc_word {s a k : Nat} (_hk : 0 < k) : pc (s / 2 ^ (64 * (a / 64)) % 18446744073709551616 &&& maskN a (stepN a k)) 0 64 = pc s a (stepN a k) := by
  have hst : stepN a k + a % 64 ≤ 64 := by unfold stepN; omega
  obtain ⟨st, he⟩ : ∃ st, st = stepN a k := ⟨_, rfl⟩
  rw [← he] at hst ⊢
  have hb : ∀ i, (s / 2 ^ (64 * (a / 64)) % 18446744073709551616 &&& maskN a st).testBit i = (decide (a % 64 ≤ i) && decide (i < a % 64 + st) && s.testBit (64 * (a / 64) + i)) := by
    intro i
    unfold maskN
    rw [Nat.testBit_and, show (18446744073709551616 : Nat) = 2 ^ 64 from rfl, Nat.testBit_mod_two_pow, Nat.testBit_div_two_pow, Nat.testBit_mul_two_pow, Nat.testBit_two_pow_sub_one]
    by_cases h1 : a % 64 ≤ i
    · by_cases h2 : i < a % 64 + st
      · have h3 : i < 64 := by omega
        have h4 : i - a % 64 < st := by omega
        rw [decide_eq_true h1, decide_eq_true h2, decide_eq_true h3, decide_eq_true h4, Nat.add_comm i]; simp
      · have h4 : ¬ (i - a % 64 < st) := by omega
        simp [h1, h2, h4]
    · simp [h1]
  generalize (s / 2 ^ (64 * (a / 64)) % 18446744073709551616 &&& maskN a st) = z at hb
  have hz : pc z 0 64 = pc z 0 (a % 64) + (pc z (0 + a % 64) st + pc z (0 + a % 64 + st) (64 - (a % 64 + st))) := by
    rw [← pc_add, ← pc_add, show a % 64 + (st + (64 - (a % 64 + st))) = 64 by omega]
  rw [hz]
  rw [pc_zero (a % 64) 0 (fun i hi => by rw [hb]; simp; omega)]
  rw [pc_zero (64 - (a % 64 + st)) (0 + a % 64 + st) (fun i hi => by rw [hb]; simp; omega)]
  rw [Nat.zero_add, Nat.add_zero]
  refine pc_congr st _ _ fun i hi => ?_
  rw [hb]
  have h1 : a % 64 ≤ 0 + a % 64 + i := by omega
  have h2 : 0 + a % 64 + i < a % 64 + st := by omega
  rw [decide_eq_true h1, decide_eq_true h2, Bool.true_and, Bool.true_and, show 64 * (a / 64) + (0 + a % 64 + i) = a + i by omega]

/-- A set as a value. -/
def setVal (L : Nat) (W : Nat) (sp : Option Nat) (nw cp : Nat) : Value := .agg ⟨[.int .i64 (Int.ofNat L), .slice (some ⟨W, 0, sp⟩) nw cp]⟩

structure HkA (hk : Hook Empty) : Prop where
  none : ∀ k, k ≠ 320 → hk k = none

set_option maxHeartbeats 1000000 in
theorem count_run {n L W nw cp s : Nat} {sp : Option Nat} {a k : Int} {h : Hp Empty} (H : HkA hk) (hn : 1048576 ≤ n) (hL : L ≤ 1048576) (hw : L ≤ 64 * nw) (hf : Fresh h.tbl h.next) (hW : W < h.next) (hws : WordsAt h.tbl W s nw) :
    ∃ v h', RA (hk := hk) (n + 2) 239 [setVal L W sp nw cp, .int .i64 a, .int .i64 k] h = some (v, h') ∧
      ((0 ≤ a ∧ 0 ≤ k ∧ k ≤ (L : Int) ∧ a ≤ (L : Int) - k → v = .tuple ⟨[.int .i64 (Int.ofNat (pc s a.toNat k.toNat)), .int .i64 (Int.ofNat 0)]⟩) ∧ (¬ (0 ≤ a ∧ 0 ≤ k ∧ k ≤ (L : Int) ∧ a ≤ (L : Int) - k) → v = .tuple ⟨[.int .i64 (Int.ofNat 0), .int .i64 (Int.ofNat 3)]⟩) ∧ Keep h.tbl h.next h'.tbl h'.next) := by
  refine run_fn (H.none 239 (by decide)) f239 (by simp [i239]) ?_
  dsimp only [i239, argsE]
  refine WC.seq (WC.ops (WO.box rfl rfl (WO.mv rfl (WO.mv rfl (WO.nil (thenC_norm (WC.seq (WC.seq (WC.ops ?_)))))))))
  refine WO.load rfl look_new rfl rfl rfl (WO.mv rfl (WO.mv rfl ?_))
  have k1 := Keep.new hf (.cells [.int .i64 (Int.ofNat L), .slice (some ⟨W, 0, sp⟩) nw cp])
  refine WO.fcall_ex rfl rfl (within_run (h := ⟨_, _⟩) (L := (L : Int)) (H.none 297 (by decide)) (by omega) (by omega) k1.fr) ?_
  rintro v2 ⟨tb2, nx2⟩ ⟨rfl, k2⟩
  have k3 := k1.trans k2
  have hbox : look h.next tb2 = some (.cells [.int .i64 (Int.ofNat L), .slice (some ⟨W, 0, sp⟩) nw cp]) := (k2.same h.next (by show h.next < h.next + 1; omega)).trans look_new
  show WO _ _ ((14, .bool (decide _)) :: _) _ _
  refine WO.split (fun hc => ?_) (fun hc => ?_)
  · -- there is such a row
    have hc0 := hc
    obtain ⟨ha, hk0, hkL, haL⟩ := hc
    obtain ⟨a', rfl⟩ : ∃ a' : Nat, a = Int.ofNat a' := ⟨a.toNat, by simp only [Int.ofNat_eq_natCast]; omega⟩
    obtain ⟨k', rfl⟩ : ∃ k' : Nat, k = Int.ofNat k' := ⟨k.toNat, by simp only [Int.ofNat_eq_natCast]; omega⟩
    simp only [Int.ofNat_eq_natCast] at ha hk0 hkL haL
    have hbound : a' + k' ≤ L := by omega
    refine WO.pure rfl (WO.nil (WC.cond_false rfl (WC.skip (thenC_norm (WC.seq (WC.ops (WO.mv rfl (WO.nil (thenC_norm (WC.seq (WC.block ?_)))))))))))
    refine WC.loop (fun j f tbl nx => ∃ (b c : Nat), f 1 = some (.int .i64 (Int.ofNat b)) ∧ f 2 = some (.int .i64 (Int.ofNat j)) ∧ f 8 = some (.int .i64 (Int.ofNat c)) ∧ f 3 = some (.pointer (some ⟨h.next, 0, none⟩)) ∧
      look h.next tbl = some (.cells [.int .i64 (Int.ofNat L), .slice (some ⟨W, 0, sp⟩) nw cp]) ∧ b + j ≤ L ∧ c + pc s b j = pc s a' k' ∧ Keep h.tbl h.next tbl nx) (k := k') (by omega) ⟨a', 0, rfl, rfl, rfl, rfl, hbox, hbound, by simp, k3⟩ ?_
    rintro j e tbl nx ⟨b, c, e1, e2, e8, e3, hb, hbj, hpc, hkp⟩
    refine WC.seq (WC.seq (WC.ops (WO.mv e2 (WO.gtrS rfl rfl (fun hj => ?_) (fun hj => ?_)))))
    · -- a round
      simp only [Int.ofNat_eq_natCast] at hj
      have hj' : 0 < j := by omega
      refine WO.nil (WC.cond_true rfl (WC.skip (thenC_norm (WC.block (WC.seq (WC.ops ?_))))))
      refine WO.mv e1 (WO.mv e2 (WO.fcall rfl rfl (mask_run (h := ⟨_, _⟩) (H.none 298 (by decide)) (by omega) (by omega)) ?_))
      refine WO.mv rfl (WO.pure rfl (WO.pure rfl (WO.mv rfl (WO.mv rfl (WO.nil (thenC_norm (WC.seq (WC.ops ?_))))))))
      refine WO.mv e8 (WO.fadd e3 ?_)
      refine WO.load rfl hb rfl rfl rfl (WO.mv e1 (WO.quo rfl rfl (by omega) ?_))
      have hq : b / (63 + 1) < nw := by omega
      refine WO.idxL rfl rfl rfl hq ?_
      obtain ⟨ob, ho1, ho2⟩ := hws.keep hkp hW
      refine WO.load rfl ho1 ho2 (by rw [show 0 + b / (63 + 1) * 1 = b / 64 by omega]; exact word_take (by omega)) rfl ?_
      refine WO.mv rfl (WO.andU rfl rfl (Nat.mod_lt _ (by decide)) mask_lt ?_)
      refine WO.fcall rfl rfl (ones_run (h := ⟨_, _⟩) (H.none 299 (by decide)) (Nat.lt_of_le_of_lt Nat.and_le_left (Nat.mod_lt _ (by decide)))) ?_
      have hpw : pc (Nat.mod (Nat.shiftRight s (Nat.mul 64 (b / 64))) 18446744073709551616 &&& maskN b (stepN b j)) 0 64 = pc s b (stepN b j) := by
        have : Nat.mod (Nat.shiftRight s (Nat.mul 64 (b / 64))) 18446744073709551616 = s / 2 ^ (64 * (b / 64)) % 18446744073709551616 := by
          show (s >>> (64 * (b / 64))) % 18446744073709551616 = _
          rw [Nat.shiftRight_eq_div_pow]
        rw [this]; exact pc_word hj'
      have hst : 0 < stepN b j ∧ stepN b j ≤ j := by unfold stepN; omega
      have hle := pc_le s (stepN b j) b
      have hle2 := pc_le s j b
      have hle3 := pc_le s k' a'
      rw [hpw]
      refine WO.add (a := Int.ofNat c) (b := Int.ofNat (pc s b (stepN b j))) rfl rfl (by simp only [Int.ofNat_eq_natCast]; omega) (by simp only [Int.ofNat_eq_natCast]; omega) ?_
      refine WO.mv rfl (WO.nil (thenC_norm (WC.ops ?_)))
      refine WO.mv e1 (WO.mv rfl (WO.add (a := Int.ofNat b) (b := Int.ofNat (stepN b j)) rfl rfl (by simp only [Int.ofNat_eq_natCast]; omega) (by simp only [Int.ofNat_eq_natCast]; omega) ?_))
      refine WO.mv e2 (WO.mv rfl (WO.sub (a := Int.ofNat j) (b := Int.ofNat (stepN b j)) rfl rfl (by simp only [Int.ofNat_eq_natCast]; omega) (by simp only [Int.ofNat_eq_natCast]; omega) ?_))
      refine WO.as (b := Int.ofNat (j - stepN b j)) (by simp only [Int.ofNat_eq_natCast]; omega) ?_
      refine WO.mv rfl (WO.mv rfl (WO.nil (blockC_norm ?_)))
      refine ⟨j - stepN b j, by omega, rfl, b + stepN b j, c + pc s b (stepN b j), rfl, rfl, rfl, e3, hb, by omega, ?_, hkp⟩
      have := pc_add s (stepN b j) b (j - stepN b j)
      rw [show stepN b j + (j - stepN b j) = j by omega] at this
      omega
    · -- the end
      simp only [Int.ofNat_eq_natCast] at hj
      have hj0 : j = 0 := by omega
      subst hj0
      refine WO.nil (WC.cond_false rfl (WC.exit (thenC_exit (blockC_exit (thenC_norm (WC.seq (WC.ops ?_)))))))
      refine WO.mv e8 (WO.mv rfl (WO.mv rfl (WO.nil (thenC_norm (WC.ret ?_)))))
      refine ⟨_, _, rfl, rfl, fun _ => ?_, fun h => (h hc0).elim, hkp⟩
      simp only [pc, Nat.add_zero] at hpc
      subst hpc
      rfl
  · -- there is none
    refine WO.pure rfl (WO.nil (WC.cond_true rfl (WC.seq (WC.ops (WO.mv rfl (WO.mv rfl (WO.nil (thenC_norm (WC.ret ?_)))))))))
    exact ⟨_, _, rfl, rfl, fun h => (hc h).elim, fun _ => rfl, k3⟩

theorem setN_bit : ∀ (l : List (Option Nat)) (i : Nat), (setN l).testBit i = (pgAt l i).isSome
  | [], i => by simp [setN, pgAt]
  | none :: r, 0 => by
    show (Nat.mul 2 (setN r)).testBit 0 = false
    have : Nat.mul 2 (setN r) = 2 * setN r := rfl
    rw [this, Nat.testBit_zero]; simp
  | some _ :: r, 0 => by
    show (Nat.succ (Nat.mul 2 (setN r))).testBit 0 = true
    have : Nat.succ (Nat.mul 2 (setN r)) = 2 * setN r + 1 := rfl
    rw [this, Nat.testBit_zero]; simp
  | none :: r, i + 1 => by
    show (Nat.mul 2 (setN r)).testBit (i + 1) = (pgAt r i).isSome
    have : Nat.mul 2 (setN r) = 2 * setN r := rfl
    rw [this, Nat.testBit_succ, ← setN_bit r i]; congr 1; omega
  | some _ :: r, i + 1 => by
    show (Nat.succ (Nat.mul 2 (setN r))).testBit (i + 1) = (pgAt r i).isSome
    have : Nat.succ (Nat.mul 2 (setN r)) = 2 * setN r + 1 := rfl
    rw [this, Nat.testBit_succ, ← setN_bit r i]; congr 1; omega
theorem pc_cnt (l : List (Option Nat)) : ∀ (k a : Nat), pc (setN l) a k = cntC l a k
  | 0, a => rfl
  | k + 1, a => by
    simp only [pc, cntC]
    rw [setN_bit, pc_cnt l k (a + 1)]
    cases pgAt l a with
    | none => simp
    | some P => simp; omega
theorem cnt_all (l : List (Option Nat)) : ∀ (k a : Nat), allC l a k = true ↔ cntC l a k = k
  | 0, a => by simp [allC, cntC]
  | k + 1, a => by
    simp only [allC, cntC]
    have h := cnt_all l k (a + 1)
    have hle : cntC l (a + 1) k ≤ k := by rw [← pc_cnt]; exact pc_le _ _ _
    cases pgAt l a with
    | none =>
      simp only [Bool.false_eq_true, false_iff]
      show ¬ cntC l (a + 1) k = k + 1
      omega
    | some P =>
      show allC l (a + 1) k = true ↔ (cntC l (a + 1) k).succ = k + 1
      rw [h]; omega

/-- The arena's struct, load by load. -/
abbrev topCells (x : Ar) (I : ArIds) : List Value := [.slice (some ⟨I.Pg, 0, none⟩) x.pages.length x.pages.length, .int .i64 (Int.ofNat x.pages.length), .slice (some ⟨I.W, 0, I.sp⟩) (nWords x.pages) I.cp, .int .i64 (Int.ofNat (countN x.pages)), .bool x.armed, .int .i64 (Int.ofNat x.refuse)]

structure ArH (h : Hp Empty) (x : Ar) (I : ArIds) : Prop where
  at_ : ArAt (fun i => look i h.tbl) x I
  fresh : Fresh h.tbl h.next
theorem ArH.ltA {h : Hp Empty} {x : Ar} {I : ArIds} (H : ArH h x I) : I.A < h.next := by
  rcases Nat.lt_or_ge I.A h.next with h1 | h1
  · exact h1
  · have := H.at_.top; simp only [H.fresh _ h1] at this; cases this
theorem ArH.ltPg {h : Hp Empty} {x : Ar} {I : ArIds} (H : ArH h x I) : I.Pg < h.next := by
  rcases Nat.lt_or_ge I.Pg h.next with h1 | h1
  · exact h1
  · have := H.at_.row; simp only [H.fresh _ h1] at this; cases this
theorem ArH.ltW {h : Hp Empty} {x : Ar} {I : ArIds} (H : ArH h x I) : I.W < h.next := by
  rcases Nat.lt_or_ge I.W h.next with h1 | h1
  · exact h1
  · obtain ⟨ob, h2, _⟩ := H.at_.wds; simp only [H.fresh _ h1] at h2; cases h2
theorem ArH.ltP {h : Hp Empty} {x : Ar} {I : ArIds} (H : ArH h x I) {i P : Nat} (hp : x.pages[i]? = some (some P)) : I.pid i < h.next := by
  rcases Nat.lt_or_ge (I.pid i) h.next with h1 | h1
  · exact h1
  · have := H.at_.page i P hp; simp only [H.fresh _ h1] at this; cases this
theorem ArH.keep {h h' : Hp Empty} {x : Ar} {I : ArIds} (H : ArH h x I) (k : Keep h.tbl h.next h'.tbl h'.next) : ArH h' x I where
  fresh := k.fr
  at_ := by
    have hA := k.same _ H.ltA; have hP := k.same _ H.ltPg; have hW := k.same _ H.ltW
    exact ⟨by simp only [hA]; exact H.at_.top, by simp only [hP]; exact H.at_.row, by simp only [hW]; exact H.at_.wds, fun i P hp => by have := k.same _ (H.ltP hp); simp only [this]; exact H.at_.page i P hp, H.at_.inj, H.at_.dA, H.at_.dP, H.at_.cap, H.at_.ref⟩
theorem ArH.words {h : Hp Empty} {x : Ar} {I : ArIds} (H : ArH h x I) : WordsAt h.tbl I.W (setN x.pages) (nWords x.pages) := H.at_.wds
theorem nWords_le (l : List (Option Nat)) : l.length ≤ 64 * nWords l := by
  show l.length ≤ 64 * ((l.length + 63) / 64); omega

theorem WO.mulI {X : Type} {call : CallFn X} {env : List (Nat × Value)} {m : Mem X} {K : List (Nat × Value) → Mem X → Prop} {l : List (Option (Nat × Bool) × IOp)} {d : Nat} {e : EqK} {x y : Opd} {a b : Nat} (hx : evo env x = some (.int .i64 (Int.ofNat a))) (hy : evo env y = some (.int .i64 (Int.ofNat b))) (h : a * b < 9223372036854775808)
    (k : WO call l ((d, .int .i64 (Int.ofNat (a * b))) :: env) m K) : WO call ((none, .pure d (.bin .mul e x y)) :: l) env m K := by
  refine .mul hx hy ?_ ?_ (WO.as (b := Int.ofNat (a * b)) (by simp) k)
  · simp only [Int.ofNat_eq_natCast, ← Int.natCast_mul]; omega
  · simp only [Int.ofNat_eq_natCast, ← Int.natCast_mul]; omega

set_option maxHeartbeats 2000000 in
theorem check_run {n : Nat} {x : Ar} {I : ArIds} {a k : Int} {h : Hp Empty} (H : HkA hk) (hn : 1048576 ≤ n) (hA : ArH h x I) :
    ∃ v h', RA (hk := hk) (n + 3) 194 [.pointer (some ⟨I.A, 0, none⟩), .int .i64 a, .int .i64 k] h = some (v, h') ∧ (v = .int .i64 (Int.ofNat (checkA x.pages a k)) ∧ Keep h.tbl h.next h'.tbl h'.next) := by
  have htop : look I.A h.tbl = some (.cells (topCells x I)) := hA.at_.top
  have hcap := hA.at_.cap
  have kr := Keep.refl hA.fresh
  have hca : checkA x.pages a k = (if 0 ≤ a ∧ 0 ≤ k ∧ a + k ≤ (x.pages.length * 4096 : Nat) then checkN x.pages a.toNat k.toNat else 3) := by
    cases a with
    | negSucc a => rw [if_neg (by omega)]; rfl
    | ofNat a =>
      cases k with
      | negSucc k => rw [if_neg (by omega)]; rfl
      | ofNat k =>
        split
        · rfl
        · rename_i hc
          show checkN x.pages a k = 3
          unfold checkN
          have : Nat.ble (Nat.add a k) (Nat.mul x.pages.length 4096) = false := by
            rw [← Bool.not_eq_true, Nat.ble_eq]
            show ¬ (a + k ≤ x.pages.length * 4096)
            simp only [Int.ofNat_eq_natCast] at hc
            omega
          rw [this]; rfl
  rw [hca]
  refine run_fn (H.none 194 (by decide)) f194 (by simp [i194]) ?_
  dsimp only [i194, argsE]
  refine WC.seq (WC.ops (WO.mv rfl (WO.nil (thenC_norm (WC.seq (WC.block (WC.seq (WC.ops (WO.mv rfl (WO.pure rfl (WO.mv rfl (WO.nil (thenC_norm (WC.cond_false rfl (WC.seq (WC.ops ?_))))))))))))))))
  by_cases hr : 0 ≤ a ∧ 0 ≤ k ∧ a + k ≤ (x.pages.length * 4096 : Nat)
  · simp only [if_pos hr]
    obtain ⟨ha0, hk0, hrr⟩ := hr
    obtain ⟨a', rfl⟩ : ∃ a' : Nat, a = Int.ofNat a' := ⟨a.toNat, by simp only [Int.ofNat_eq_natCast]; omega⟩
    obtain ⟨k', rfl⟩ : ∃ k' : Nat, k = Int.ofNat k' := ⟨k.toNat, by simp only [Int.ofNat_eq_natCast]; omega⟩
    simp only [Int.ofNat_eq_natCast] at ha0 hk0 hrr
    have hrn : a' + k' ≤ x.pages.length * 4096 := by omega
    refine WO.mv rfl (WO.lssS rfl rfl (fun h => absurd h (by simp only [Int.ofNat_eq_natCast]; omega)) (fun _ => ?_))
    refine WO.mv rfl (WO.take rfl rfl (WO.mv rfl (WO.take rfl rfl (WO.lssS rfl rfl (fun h => absurd h (by simp only [Int.ofNat_eq_natCast]; omega)) (fun _ => ?_)))))
    refine WO.pure rfl (WO.mv rfl (WO.take rfl rfl (WO.mv rfl (WO.take rfl rfl (WO.mv rfl (WO.take rfl rfl (WO.nilck rfl (WO.take rfl rfl (WO.fadd rfl (WO.take rfl rfl ?_))))))))))
    refine WO.load rfl htop rfl rfl rfl (WO.take rfl rfl (WO.len rfl (WO.take rfl rfl (WO.mulI rfl rfl (by omega) (WO.take rfl rfl ?_)))))
    refine WO.gtrS rfl rfl (fun h => absurd h (by simp only [Int.ofNat_eq_natCast]; omega)) (fun _ => ?_)
    refine WO.pure rfl (WO.mv rfl (WO.take rfl rfl (WO.mv rfl (WO.take rfl rfl (WO.mv rfl (WO.take rfl rfl (WO.nilck rfl (WO.take rfl rfl (WO.fadd rfl (WO.take rfl rfl ?_))))))))))
    refine WO.load rfl htop rfl rfl rfl (WO.take rfl rfl (WO.len rfl (WO.take rfl rfl (WO.mulI rfl rfl (by omega) (WO.take rfl rfl (WO.mv rfl (WO.take rfl rfl ?_)))))))
    refine WO.sub rfl rfl (by simp only [Int.ofNat_eq_natCast]; omega) (by simp only [Int.ofNat_eq_natCast]; omega) (WO.take rfl rfl ?_)
    refine WO.gtrS rfl rfl (fun h => absurd h (by simp only [Int.ofNat_eq_natCast]; omega)) (fun _ => ?_)
    refine WO.pure rfl (WO.mv rfl (WO.nil (thenC_norm (WC.cond_false rfl (WC.seq (WC.ops (WO.mv rfl ?_)))))))
    refine WO.eqlS rfl rfl (fun he => ?_) (fun he => ?_)
    · -- no bytes
      simp only [Int.ofNat_eq_natCast] at he
      have : k' = 0 := by omega
      subst this
      refine WO.mv rfl (WO.nil (thenC_norm (WC.cond_true rfl (WC.seq (WC.ops (WO.mv rfl (WO.nil (thenC_norm (WC.ret ?_)))))))))
      refine ⟨_, _, rfl, rfl, ?_, kr⟩
      have h1 : Nat.ble (Nat.add a' 0) (Nat.mul x.pages.length 4096) = true := by rw [Nat.ble_eq]; exact hrn
      show Value.int .i64 (Int.ofNat 0) = .int .i64 (Int.ofNat (checkN x.pages a' 0))
      unfold checkN
      rw [h1]; rfl
    · simp only [Int.ofNat_eq_natCast] at he
      have hk1 : 0 < k' := by omega
      refine WO.mv rfl (WO.nil (thenC_norm (WC.cond_false rfl (WC.skip (blockC_norm (thenC_norm (WC.seq (WC.ops ?_))))))))
      refine WO.mv rfl (WO.quo rfl rfl (by omega) (WO.mv rfl (WO.mv rfl (WO.add rfl rfl (by simp only [Int.ofNat_eq_natCast]; omega) (by simp only [Int.ofNat_eq_natCast]; omega) (WO.sub rfl rfl (by simp only [Int.ofNat_eq_natCast]; omega) (by simp only [Int.ofNat_eq_natCast]; omega) ?_)))))
      refine WO.as (b := Int.ofNat (a' + k' - 1)) (by simp only [Int.ofNat_eq_natCast]; omega) (WO.quo rfl rfl (by omega) (WO.mv rfl (WO.mv rfl (WO.nil (thenC_norm (WC.seq (WC.seq (WC.ops ?_))))))))
      refine WO.mv rfl (WO.nilck rfl (WO.fadd rfl (WO.load rfl htop rfl rfl rfl (WO.mv rfl (WO.mv rfl (WO.mv rfl (WO.sub rfl rfl (by simp only [Int.ofNat_eq_natCast]; omega) (by simp only [Int.ofNat_eq_natCast]; omega) ?_)))))))
      refine WO.add rfl rfl (by simp only [Int.ofNat_eq_natCast]; omega) (by simp only [Int.ofNat_eq_natCast]; omega) ?_
      refine WO.as (b := Int.ofNat ((a' + k' - 1) / 4096 - a' / 4096 + 1)) (by simp only [Int.ofNat_eq_natCast]; omega) ?_
      refine WO.fcall_ex rfl rfl (count_run (h := h) (s := setN x.pages) H hn hcap (nWords_le _) hA.fresh hA.ltW hA.words) ?_
      rintro v2 ⟨tb2, nx2⟩ ⟨hv, _, k2⟩
      have hv := hv (by simp only [Int.ofNat_eq_natCast]; omega)
      subst hv
      refine WO.mv rfl (WO.pure rfl (WO.pure rfl (WO.mv rfl (WO.mv rfl (WO.nil (thenC_norm (WC.seq (WC.ops (WO.mv rfl (WO.mv rfl (WO.mv rfl ?_)))))))))))
      refine WO.sub rfl rfl (by simp only [Int.ofNat_eq_natCast]; omega) (by simp only [Int.ofNat_eq_natCast]; omega) ?_
      have hcn : checkN x.pages a' k' = (if cntC x.pages (a' / 4096) ((a' + k' - 1) / 4096 - a' / 4096 + 1) = (a' + k' - 1) / 4096 - a' / 4096 + 1 then 0 else 3) := by
        have h1 : Nat.ble (Nat.add a' k') (Nat.mul x.pages.length 4096) = true := by rw [Nat.ble_eq]; exact hrn
        have h2 : Nat.beq k' 0 = false := by rw [← Bool.not_eq_true, Nat.beq_eq]; omega
        unfold checkN
        rw [h1, h2, cond_true, cond_false]
        show (bif allC x.pages (a' / 4096) ((a' + k' - 1) / 4096 - a' / 4096 + 1) then 0 else 3) = _
        have := cnt_all x.pages ((a' + k' - 1) / 4096 - a' / 4096 + 1) (a' / 4096)
        by_cases hq : allC x.pages (a' / 4096) ((a' + k' - 1) / 4096 - a' / 4096 + 1) = true
        · rw [hq, if_pos (this.1 hq)]; rfl
        · rw [if_neg (fun h => hq (this.2 h))]
          rw [Bool.not_eq_true] at hq
          rw [hq]; rfl
      have hpc : pc (setN x.pages) (a' / 4096) ((a' + k' - 1) / 4096 - a' / 4096 + 1) = cntC x.pages (a' / 4096) ((a' + k' - 1) / 4096 - a' / 4096 + 1) := pc_cnt _ _ _
      have hle := pc_le (setN x.pages) ((a' + k' - 1) / 4096 - a' / 4096 + 1) (a' / 4096)
      refine WO.leqS rfl rfl (fun hc => ?_) (fun hc => ?_)
      · refine WO.nil (WC.cond_true rfl (WC.seq (WC.ops (WO.mv rfl (WO.nil (thenC_norm (WC.ret ?_)))))))
        refine ⟨_, _, rfl, rfl, ?_, k2⟩
        have hc : pc (setN x.pages) (a' / 4096) ((a' + k' - 1) / 4096 - a' / 4096 + 1) ≤ (a' + k' - 1) / 4096 - a' / 4096 := by
          have : ((pc (setN x.pages) (a' / 4096) ((a' + k' - 1) / 4096 - a' / 4096 + 1) : Nat) : Int) ≤ (((a' + k' - 1) / 4096 : Nat) : Int) - ((a' / 4096 : Nat) : Int) := hc
          omega
        show Value.int .i64 (Int.ofNat 3) = .int .i64 (Int.ofNat (checkN x.pages a' k'))
        rw [hcn, if_neg (by omega)]
      · refine WO.nil (WC.cond_false rfl (WC.skip (thenC_norm (WC.seq (WC.ops (WO.mv rfl (WO.nil (thenC_norm (WC.ret ?_)))))))))
        refine ⟨_, _, rfl, rfl, ?_, k2⟩
        have hc : ¬ pc (setN x.pages) (a' / 4096) ((a' + k' - 1) / 4096 - a' / 4096 + 1) ≤ (a' + k' - 1) / 4096 - a' / 4096 := by
          have : ¬ ((pc (setN x.pages) (a' / 4096) ((a' + k' - 1) / 4096 - a' / 4096 + 1) : Nat) : Int) ≤ (((a' + k' - 1) / 4096 : Nat) : Int) - ((a' / 4096 : Nat) : Int) := hc
          omega
        show Value.int .i64 (Int.ofNat 0) = .int .i64 (Int.ofNat (checkN x.pages a' k'))
        rw [hcn, if_pos (by omega)]
  · simp only [if_neg hr]
    repeat' first
      | with_reducible refine WC.seq ?_
      | with_reducible refine WC.ops ?_
      | with_reducible refine WC.ret ?_
      | with_reducible refine WC.skip ?_
      | with_reducible refine WC.block ?_
      | with_reducible refine WC.exit ?_
      | with_reducible refine thenC_norm ?_
      | with_reducible refine thenC_ret ?_
      | with_reducible refine thenC_exit ?_
      | with_reducible refine blockC_norm ?_
      | with_reducible refine blockC_ret ?_
      | with_reducible refine blockC_exit ?_
      | with_reducible refine WO.nil ?_
      | refine WO.mv (by first | rfl | assumption) ?_
      | refine WO.eqlS (by first | rfl | assumption) (by first | rfl | assumption) (fun _ => ?_) (fun _ => ?_)
      | refine WO.neqS (by first | rfl | assumption) (by first | rfl | assumption) (fun _ => ?_) (fun _ => ?_)
      | refine WO.lssS (by first | rfl | assumption) (by first | rfl | assumption) (fun _ => ?_) (fun _ => ?_)
      | refine WO.gtrS (by first | rfl | assumption) (by first | rfl | assumption) (fun _ => ?_) (fun _ => ?_)
      | refine WO.leqS (by first | rfl | assumption) (by first | rfl | assumption) (fun _ => ?_) (fun _ => ?_)
      | refine WO.geqS (by first | rfl | assumption) (by first | rfl | assumption) (fun _ => ?_) (fun _ => ?_)
      | refine WO.skip rfl rfl ?_
      | refine WO.take rfl rfl ?_
      | refine WC.cond_true (by first | rfl | assumption) ?_
      | refine WC.cond_false (by first | rfl | assumption) ?_
      | refine WO.add (by first | rfl | assumption) (by first | rfl | assumption) (by simp only [Int.ofNat_eq_natCast] at *; omega) (by simp only [Int.ofNat_eq_natCast] at *; omega) ?_
      | refine WO.sub (by first | rfl | assumption) (by first | rfl | assumption) (by simp only [Int.ofNat_eq_natCast] at *; omega) (by simp only [Int.ofNat_eq_natCast] at *; omega) ?_
      | refine WO.len rfl ?_
      | refine WO.mulI rfl rfl (by omega) ?_
      | refine WO.load rfl htop rfl rfl rfl ?_
      | refine WO.pure rfl ?_
    all_goals first
      | exact ⟨_, _, rfl, rfl, rfl, kr⟩
      | (exfalso; simp only [Int.ofNat_eq_natCast] at *; omega)
end Go.AI
/- What the arena's functions do upon its parts, on. -/
namespace Go.AI
open Go.Proofs
variable {hk : Hook Empty}
theorem pgAt_get : ∀ (l : List (Option Nat)) (i P : Nat), pgAt l i = some P ↔ l[i]? = some (some P)
  | [], i, P => by simp [pgAt]
  | p :: r, 0, P => by simp [pgAt]
  | p :: r, i + 1, P => by simp only [pgAt, List.getElem?_cons_succ]; exact pgAt_get r i P
theorem rowCells_get (pid : Nat → Nat) : ∀ (l : List (Option Nat)) (b i : Nat), (rowCells pid b l)[i]? = (l[i]?).map fun p => match p with | none => .pointer none | some _ => .pointer (some ⟨pid (b + i), 0, none⟩)
  | [], b, i => by simp [rowCells]
  | none :: r, b, 0 => by simp [rowCells]
  | some P :: r, b, 0 => by simp [rowCells]
  | none :: r, b, i + 1 => by simp only [rowCells, List.getElem?_cons_succ]; rw [rowCells_get pid r (b + 1) i, show b + 1 + i = b + (i + 1) by omega]
  | some P :: r, b, i + 1 => by simp only [rowCells, List.getElem?_cons_succ]; rw [rowCells_get pid r (b + 1) i, show b + 1 + i = b + (i + 1) by omega]
theorem take_one {cs : List Value} {q : Nat} {v : Value} (h : cs[q]? = some v) : takeN cs q 1 = some [v] := by
  have h1 : (cs.drop q).take 1 = [v] := by
    apply List.ext_getElem?
    intro i
    rw [List.getElem?_take]
    by_cases hi : i < 1
    · have : i = 0 := by omega
      subst this
      simp [h]
    · simp [hi]
  simp only [takeN, h1]; rfl
theorem row_take {pid : Nat → Nat} {l : List (Option Nat)} {q P : Nat} (h : pgAt l q = some P) : takeN (rowCells pid 0 l) q 1 = some [.pointer (some ⟨pid q, 0, none⟩)] := by
  refine take_one ?_
  rw [rowCells_get, (pgAt_get l q P).1 h, Nat.zero_add]; rfl

/-- What is done to the bytes of each page that some have a part in: Inv at n l tbl nx: what holds when n bytes from at on are still to come. -/
theorem each_run {n f : Nat} {I : ArIds} {arm : Bool} {ref : Nat} {caps : List Value} {h : Hp Empty} (H : HkA hk) (_hn : 1048576 ≤ n)
    (Inv : Nat → Nat → List (Option Nat) → List (Nat × AObj Empty) → Nat → Prop)
    (hA : ∀ a k l tbl nx, Inv a k l tbl nx → ArH ⟨tbl, nx⟩ ⟨l, arm, ref⟩ I)
    (hpg : ∀ a k l tbl nx, Inv a k l tbl nx → 0 < k → ∃ P, pgAt l (a / 4096) = some P)
    (hcall : ∀ a k l tbl nx P, Inv a k l tbl nx → 0 < k → pgAt l (a / 4096) = some P → ∃ v h', RA (hk := hk) (n + 1) f ([.slice (some ⟨I.pid (a / 4096), a % 4096, some 1⟩) (min k (4096 - a % 4096)) (4096 - a % 4096)] ++ caps) ⟨tbl, nx⟩ = some (v, h') ∧ ∃ l', Inv (a + min k (4096 - a % 4096)) (k - min k (4096 - a % 4096)) l' h'.tbl h'.next)
    {a k : Nat} {l : List (Option Nat)} (h0 : Inv a k l h.tbl h.next) (hb : a + k ≤ 4294967296) (hfuel : k < n) :
    ∃ v h', RA (hk := hk) (n + 2) 195 [.pointer (some ⟨I.A, 0, none⟩), .int .i64 (Int.ofNat a), .int .i64 (Int.ofNat k), .func (.func f) #[] ⟨caps⟩] h = some (v, h') ∧ (v = .tuple ⟨[]⟩ ∧ ∃ a' l', Inv a' 0 l' h'.tbl h'.next) := by
  refine run_fn (H.none 195 (by decide)) f195 (by simp [i195]) ?_
  dsimp only [i195, argsE]
  refine WC.block ?_
  refine WC.loop (fun j e tbl nx => ∃ (b : Nat) (l : List (Option Nat)), e 0 = some (.pointer (some ⟨I.A, 0, none⟩)) ∧ e 1 = some (.int .i64 (Int.ofNat b)) ∧ e 2 = some (.int .i64 (Int.ofNat j)) ∧ e 3 = some (.func (.func f) #[] ⟨caps⟩) ∧ b + j ≤ 4294967296 ∧ Inv b j l tbl nx) (k := k) (by omega) ⟨a, l, rfl, rfl, rfl, rfl, hb, h0⟩ ?_
  rintro j e tbl nx ⟨b, l, e0, e1, e2, e3, hbj, hI⟩
  refine WC.seq (WC.seq (WC.ops (WO.mv e2 (WO.gtrS rfl rfl (fun hj => ?_) (fun hj => ?_)))))
  · simp only [Int.ofNat_eq_natCast] at hj
    have hj' : 0 < j := by omega
    have hAr := hA _ _ _ _ _ hI
    obtain ⟨P, hP⟩ := hpg _ _ _ _ _ hI hj'
    have hlt : b / 4096 < l.length := by
      have := (pgAt_get l _ P).1 hP
      rcases Nat.lt_or_ge (b / 4096) l.length with h | h
      · exact h
      · rw [List.getElem?_eq_none h] at this; cases this
    have htop : look I.A tbl = some (.cells (topCells ⟨l, arm, ref⟩ I)) := hAr.at_.top
    have hrow : look I.Pg tbl = some (.cells (rowCells I.pid 0 l)) := hAr.at_.row
    refine WO.nil (WC.cond_true rfl (WC.skip (thenC_norm (WC.block (WC.seq (WC.ops ?_))))))
    refine WO.mv e2 (WO.mv e1 (WO.rem rfl rfl (WO.sub rfl rfl (by simp only [Int.ofNat_eq_natCast]; omega) (by simp only [Int.ofNat_eq_natCast]; omega) (WO.min2 rfl rfl ?_))))
    refine WO.as (b := Int.ofNat (min j (4096 - b % 4096))) (by simp only [Int.ofNat_eq_natCast]; omega) ?_
    refine WO.mv rfl (WO.nil (thenC_norm (WC.seq (WC.ops ?_))))
    refine WO.mv e3 (WO.mv e0 (WO.nilck rfl (WO.fadd rfl (WO.load rfl htop rfl rfl rfl (WO.mv e1 (WO.quo rfl rfl (by omega) (WO.idxL rfl rfl rfl hlt ?_)))))))
    refine WO.load rfl hrow rfl (by rw [show 0 + b / (4095 + 1) * 1 = b / 4096 by omega]; exact row_take hP) rfl ?_
    refine WO.nilck rfl (WO.mv e1 (WO.rem rfl rfl (WO.slALo rfl rfl rfl (Nat.mod_lt _ (by decide)) ?_)))
    refine WO.mv rfl (WO.slLHi rfl rfl rfl (by show min j (4096 - b % 4096) ≤ 4096 - b % 4096; omega) (by show 0 < 4096 - b % 4096; omega) ?_)
    have hs : (Value.slice (some ⟨I.pid (b / 4096), 0 + b % 4096 * 1 + 0 * 1, some 1⟩) (min j (4096 - b % 4096) - 0) (4096 - b % 4096 - 0)) = .slice (some ⟨I.pid (b / 4096), b % 4096, some 1⟩) (min j (4096 - b % 4096)) (4096 - b % 4096) := by
      rw [show 0 + b % 4096 * 1 + 0 * 1 = b % 4096 by omega, Nat.sub_zero, Nat.sub_zero]
    obtain ⟨v, h', hc, l', hI'⟩ := hcall b j l tbl nx P hI hj' hP
    refine WO.fcall rfl rfl (v := v) (h := h') (by
      show run FA (fun _ => false) hk (n + 1) f ([_] ++ caps) ⟨tbl, nx⟩ = some (v, h')
      rw [hs]; exact hc) ?_
    refine WO.nil (thenC_norm (WC.ops ?_))
    refine WO.mv e1 (WO.mv rfl (WO.add rfl rfl (by simp only [Int.ofNat_eq_natCast]; omega) (by simp only [Int.ofNat_eq_natCast]; omega) ?_))
    refine WO.mv e2 (WO.mv rfl (WO.sub rfl rfl (by simp only [Int.ofNat_eq_natCast]; omega) (by simp only [Int.ofNat_eq_natCast]; omega) ?_))
    refine WO.as (b := Int.ofNat (j - min j (4096 - b % 4096))) (by simp only [Int.ofNat_eq_natCast]; omega) ?_
    refine WO.mv rfl (WO.mv rfl (WO.nil (blockC_norm ?_)))
    exact ⟨j - min j (4096 - b % 4096), by omega, rfl, b + min j (4096 - b % 4096), l', e0, rfl, rfl, e3, by omega, hI'⟩
  · simp only [Int.ofNat_eq_natCast] at hj
    have hj0 : j = 0 := by omega
    subst hj0
    refine WO.nil (WC.cond_false rfl (WC.exit (thenC_exit (blockC_exit ?_))))
    exact ⟨_, _, rfl, rfl, rfl, b, l, hI⟩
end Go.AI
/- What the arena's functions do upon its parts: a page's cells. -/
namespace Go.AI
open Go.Proofs
variable {hk : Hook Empty}

theorem page_get (P i : Nat) : (pageCells P)[i]? = if i < 4096 then some (byteV P i) else none := by
  unfold pageCells
  rw [List.getElem?_map]
  by_cases h : i < 4096
  · rw [if_pos h, List.getElem?_range h]; rfl
  · rw [if_neg h, List.getElem?_eq_none (by simpa using h)]; rfl
theorem page_len (P : Nat) : (pageCells P).length = 4096 := by unfold pageCells; simp
theorem splice_get {cs vs : List Value} {n : Nat} (h : n + vs.length ≤ cs.length) (i : Nat) : (splice cs n vs)[i]? = if n ≤ i ∧ i < n + vs.length then vs[i - n]? else cs[i]? := by
  rw [splice_eq _ _ _ h]
  by_cases h1 : i < n
  · rw [if_neg (by omega), List.append_assoc, List.getElem?_append_left (by rw [List.length_take]; omega), List.getElem?_take, if_pos h1]
  · by_cases h2 : i < n + vs.length
    · rw [if_pos ⟨by omega, h2⟩, List.getElem?_append_left (by rw [List.length_append, List.length_take]; omega), List.getElem?_append_right (by rw [List.length_take]; omega), List.length_take, Nat.min_eq_left (by omega)]
    · rw [if_neg (by omega), List.getElem?_append_right (by rw [List.length_append, List.length_take]; omega), List.length_append, List.length_take, Nat.min_eq_left (by omega), List.getElem?_drop, show n + vs.length + (i - (n + vs.length)) = i by omega]
theorem page_set {P off k v : Nat} {vs : List Value} (hv : v < 2 ^ (8 * k)) (hl : vs.length = k) (hb : off + k ≤ 4096) (hs : ∀ i, i < k → vs[i]? = some (byteV v i)) : splice (pageCells P) off vs = pageCells (setBytes P off k v) := by
  apply List.ext_getElem?
  intro i
  rw [splice_get (by rw [page_len]; omega), page_get, page_get, hl]
  by_cases h1 : off ≤ i ∧ i < off + k
  · rw [if_pos h1, if_pos (by omega), hs _ (by omega)]
    unfold byteV
    rw [byte_set hv, if_pos h1]
  · rw [if_neg h1]
    unfold byteV
    rw [byte_set hv, if_neg h1]
theorem page_put {P off : Nat} {s : List UInt8} (hb : off + s.length ≤ 4096) : splice (pageCells P) off (byteCells s) = pageCells (setBytes P off s.length (numOf s)) := by
  refine page_set (numOf_lt s) (by simp [byteCells]) hb fun i hi => ?_
  unfold byteCells byteV
  rw [List.getElem?_map, List.getElem?_eq_getElem hi, byte_num s i s[i] (List.getElem?_eq_getElem hi)]
  rfl
theorem page_bytes (P : Nat) : ∀ (k off : Nat), off + k ≤ 4096 → takeN (pageCells P) off k = some (byteCells (segBytes P off k)) := by
  intro k off hb
  have key : ∀ (k off : Nat), off + k ≤ 4096 → ((pageCells P).drop off).take k = byteCells (segBytes P off k) := by
    intro k
    induction k with
    | zero => intro off _; simp [segBytes, byteCells]
    | succ k ih =>
      intro off h
      have h0 : (pageCells P).drop off = byteV P off :: (pageCells P).drop (off + 1) := by
        have : off < (pageCells P).length := by rw [page_len]; omega
        rw [List.drop_eq_getElem_cons this]
        have h2 := page_get P off
        rw [if_pos (by omega), List.getElem?_eq_getElem this] at h2
        rw [Option.some.inj h2]
      rw [h0, List.take_succ_cons, ih (off + 1) (by omega)]
      have hv : (UInt8.ofNat (byteN P off)).toNat = byteN P off := by
        have := byteN_lt P off
        rw [UInt8.toNat_ofNat']
        exact Nat.mod_eq_of_lt this
      show byteV P off :: byteCells (segBytes P (off + 1) k) = .int .u8 (Int.ofNat (UInt8.ofNat (byteN P off)).toNat) :: byteCells (segBytes P (off + 1) k)
      rw [hv]
      rfl
  have hl : (byteCells (segBytes P off k)).length = k := by
    rw [← key k off hb, List.length_take, List.length_drop, page_len]; omega
  simp only [takeN, key k off hb, hl, Nat.beq_refl, cond_true]

theorem setPg_len : ∀ (l : List (Option Nat)) (q : Nat) (p : Option Nat), (setPg l q p).length = l.length
  | [], _, _ => rfl
  | _ :: r, 0, p => rfl
  | x :: r, q + 1, p => by simp only [setPg, List.length_cons]; rw [setPg_len r q p]
theorem setPg_get : ∀ (l : List (Option Nat)) (q i : Nat) (p : Option Nat), (setPg l q p)[i]? = if i = q ∧ i < l.length then some p else l[i]?
  | [], q, i, p => by simp [setPg]
  | x :: r, 0, 0, p => by simp [setPg]
  | x :: r, 0, i + 1, p => by simp [setPg]
  | x :: r, q + 1, 0, p => by simp [setPg]
  | x :: r, q + 1, i + 1, p => by
    simp only [setPg, List.getElem?_cons_succ, List.length_cons]
    rw [setPg_get r q i p]
    by_cases h : i = q ∧ i < r.length
    · rw [if_pos h, if_pos (by omega)]
    · rw [if_neg h, if_neg (by omega)]
theorem pgAt_lt {l : List (Option Nat)} {q P : Nat} (h : pgAt l q = some P) : q < l.length := by
  have := (pgAt_get l q P).1 h
  rcases Nat.lt_or_ge q l.length with h | h
  · exact h
  · rw [List.getElem?_eq_none h] at this; cases this
theorem row_set (pid : Nat → Nat) : ∀ (l : List (Option Nat)) (b q P P' : Nat), pgAt l q = some P → rowCells pid b (setPg l q (some P')) = rowCells pid b l
  | [], _, _, _, _, h => by simp [pgAt] at h
  | none :: r, b, 0, P, P', h => by simp [pgAt] at h
  | some x :: r, b, 0, P, P', h => rfl
  | none :: r, b, q + 1, P, P', h => by simp only [setPg, rowCells]; rw [row_set pid r (b + 1) q P P' h]
  | some x :: r, b, q + 1, P, P', h => by simp only [setPg, rowCells]; rw [row_set pid r (b + 1) q P P' h]
theorem setN_set : ∀ (l : List (Option Nat)) (q P P' : Nat), pgAt l q = some P → setN (setPg l q (some P')) = setN l
  | [], _, _, _, h => by simp [pgAt] at h
  | none :: r, 0, P, P', h => by simp [pgAt] at h
  | some x :: r, 0, P, P', h => rfl
  | none :: r, q + 1, P, P', h => by simp only [setPg, setN]; rw [setN_set r q P P' h]
  | some x :: r, q + 1, P, P', h => by simp only [setPg, setN]; rw [setN_set r q P P' h]
theorem countN_set : ∀ (l : List (Option Nat)) (q P P' : Nat), pgAt l q = some P → countN (setPg l q (some P')) = countN l
  | [], _, _, _, h => by simp [pgAt] at h
  | none :: r, 0, P, P', h => by simp [pgAt] at h
  | some x :: r, 0, P, P', h => rfl
  | none :: r, q + 1, P, P', h => by simp only [setPg, countN]; rw [countN_set r q P P' h]
  | some x :: r, q + 1, P, P', h => by simp only [setPg, countN]; rw [countN_set r q P P' h]
theorem nWords_set (l : List (Option Nat)) (q : Nat) (p : Option Nat) : nWords (setPg l q p) = nWords l := by
  unfold nWords; rw [setPg_len]
theorem wordCells_set {l : List (Option Nat)} {q P : Nat} (P' : Nat) (h : pgAt l q = some P) : wordCells (setPg l q (some P')) = wordCells l := by
  unfold wordCells; rw [nWords_set, setN_set l q P P' h]

/-- A page's bytes turn. -/
theorem ArH.setPage {tbl : List (Nat × AObj Empty)} {nx q P P' ref : Nat} {l : List (Option Nat)} {arm : Bool} {I : ArIds} (H : ArH ⟨tbl, nx⟩ ⟨l, arm, ref⟩ I) (hq : pgAt l q = some P) :
    ArH ⟨upd (I.pid q) (.cells (pageCells P')) tbl, nx⟩ ⟨setPg l q (some P'), arm, ref⟩ I where
  fresh := H.fresh.upd
  at_ := by
    have hP : l[q]? = some (some P) := (pgAt_get l q P).1 hq
    obtain ⟨d1, d2, d3⟩ := H.at_.dP q P hP
    have hl : ∀ i P2, (setPg l q (some P'))[i]? = some (some P2) → ∃ P3, l[i]? = some (some P3) ∧ (i = q ∧ P2 = P' ∨ i ≠ q ∧ P2 = P3) := by
      intro i P2 h
      rw [setPg_get] at h
      by_cases hc : i = q ∧ i < l.length
      · rw [if_pos hc] at h
        injection h with h; injection h with h
        exact ⟨P, hc.1 ▸ hP, .inl ⟨hc.1, h.symm⟩⟩
      · rw [if_neg hc] at h
        refine ⟨P2, h, .inr ⟨fun e => hc ⟨e, ?_⟩, rfl⟩⟩
        rw [e]; exact pgAt_lt hq
    have hold : ∀ j, j ≠ I.pid q → look j (upd (I.pid q) (.cells (pageCells P')) tbl) = look j tbl := fun j h => look_upd_ne h
    refine ⟨?_, ?_, ?_, ?_, ?_, H.at_.dA, ?_, ?_, H.at_.ref⟩
    · show look I.A (upd _ _ tbl) = _
      rw [hold _ (Ne.symm d1), setPg_len, nWords_set, countN_set l q P P' hq]
      exact H.at_.top
    · show look I.Pg (upd _ _ tbl) = _
      rw [hold _ (Ne.symm d2), row_set _ l 0 q P P' hq]
      exact H.at_.row
    · show ∃ ob, look I.W (upd _ _ tbl) = some ob ∧ cellsO ob = some (wordCells (setPg l q (some P')))
      rw [hold _ (Ne.symm d3), wordCells_set P' hq]
      exact H.at_.wds
    · intro i P2 h
      obtain ⟨P3, h3, h4⟩ := hl i P2 h
      show look (I.pid i) (upd _ _ tbl) = _
      rcases h4 with ⟨rfl, rfl⟩ | ⟨h5, rfl⟩
      · exact look_upd_same (H.at_.page i P hP)
      · rw [hold _ (fun e => h5 (H.at_.inj i q _ _ h3 hP e))]
        exact H.at_.page i P2 h3
    · intro i j P2 P3 hi hj
      obtain ⟨_, hi', _⟩ := hl i P2 hi
      obtain ⟨_, hj', _⟩ := hl j P3 hj
      exact H.at_.inj i j _ _ hi' hj'
    · intro i P2 hi
      obtain ⟨_, hi', _⟩ := hl i P2 hi
      exact H.at_.dP i _ hi'
    · show (setPg l q (some P')).length ≤ 1048576
      rw [setPg_len]; exact H.at_.cap

theorem ArAt.congr {V V' : Nat → Option (AObj Empty)} {x : Ar} {I : ArIds} (h : ArAt V x I) (e : ∀ k, V' k = V k) : ArAt V' x I := by
  have : V' = V := funext e
  rw [this]; exact h
theorem ArH.congr {h h' : Hp Empty} {x : Ar} {I : ArIds} (H : ArH h x I) (e : ∀ k, look k h'.tbl = look k h.tbl) (hn : h.next ≤ h'.next) : ArH h' x I :=
  ⟨H.at_.congr e, fun k hk => by rw [e]; exact H.fresh k (by omega)⟩

theorem fill_step {P off i b : Nat} (hb : b < 256) (h : off + i < 4096) : splice (pageCells (setBytes P off i (fillV b i))) (off + i) [.int .u8 (Int.ofNat b)] = pageCells (setBytes P off (i + 1) (fillV b (i + 1))) := by
  apply List.ext_getElem?
  intro j
  rw [splice_get (by rw [page_len]; show off + i + 1 ≤ 4096; omega), page_get, page_get]
  show (if off + i ≤ j ∧ j < off + i + 1 then _ else _) = _
  unfold byteV
  rw [byte_set (fill_lt hb i), byte_set (fill_lt hb (i + 1))]
  by_cases h1 : j = off + i
  · subst h1
    rw [if_pos (by omega), if_pos (by omega), if_pos (by omega), byte_fill hb (i + 1) _ (by omega), Nat.sub_self]
    rfl
  · rw [if_neg (by omega)]
    by_cases h2 : j < 4096
    · rw [if_pos h2, if_pos h2]
      by_cases h3 : off ≤ j ∧ j < off + i
      · rw [if_pos h3, if_pos (by omega), byte_fill hb i _ (by omega), byte_fill hb (i + 1) _ (by omega)]
      · rw [if_neg h3, if_neg (by omega)]
    · rw [if_neg h2, if_neg h2]

set_option maxHeartbeats 1000000 in
theorem fill1_run {n p off len cp B b P : Nat} {h : Hp Empty} (H : HkA hk) (hn : 4096 ≤ n) (hpB : p ≠ B) (hb : b < 256) (hlen : off + len ≤ 4096) (hp : look p h.tbl = some (.cells (pageCells P))) (hB : look B h.tbl = some (.cells [.int .u8 (Int.ofNat b)])) :
    ∃ v h', RA (hk := hk) (n + 2) 206 [.slice (some ⟨p, off, some 1⟩) len cp, .pointer (some ⟨B, 0, none⟩)] h = some (v, h') ∧ (v = .tuple ⟨[]⟩ ∧ h'.next = h.next ∧ ∀ k, look k h'.tbl = look k (upd p (.cells (pageCells (setBytes P off len (fillV b len)))) h.tbl)) := by
  refine run_fn (H.none 206 (by decide)) f206 (by simp [i206]) ?_
  dsimp only [i206, argsE]
  have h00 : pageCells (setBytes P off 0 (fillV b 0)) = pageCells P := by
    have := page_set (P := P) (off := off) (k := 0) (v := fillV b 0) (vs := []) (fill_lt hb 0) rfl (by omega) (fun i hi => by omega)
    rw [← this]
    rw [splice_eq _ _ _ (by rw [page_len]; show off + 0 ≤ 4096; omega)]
    simp
  refine WC.seq (WC.ops (WO.mv rfl (WO.len rfl (WO.mv rfl (WO.nil (thenC_norm (WC.block ?_)))))))
  refine WC.loop (fun j e tbl nx => ∃ i, i + j = len ∧ e 0 = some (.slice (some ⟨p, off, some 1⟩) len cp) ∧ e 1 = some (.pointer (some ⟨B, 0, none⟩)) ∧ e 5 = some (.int .i64 (Int.ofNat len)) ∧ e 6 = some (.int .i64 (Int.ofNat i)) ∧ nx = h.next ∧
    look p tbl = some (.cells (pageCells (setBytes P off i (fillV b i)))) ∧ (∀ k, k ≠ p → look k tbl = look k h.tbl)) (k := len) (by omega) ⟨0, by omega, rfl, rfl, rfl, rfl, rfl, by rw [h00]; exact hp, fun _ _ => rfl⟩ ?_
  rintro j e tbl nx ⟨i, hij, e0, e1, e5, e6, rfl, hpc, hoth⟩
  refine WC.seq (WC.ops (WO.lssS e6 e5 (fun hc => ?_) (fun hc => ?_)))
  · simp only [Int.ofNat_eq_natCast] at hc
    have hi : i < len := by omega
    refine WO.nil (thenC_norm (WC.seq (WC.cond_true rfl (WC.skip (thenC_norm (WC.seq (WC.block (WC.seq (WC.ops ?_)))))))))
    refine WO.mv e6 (WO.mv rfl (WO.nil (thenC_norm (WC.ops (WO.mv e0 (WO.mv rfl ?_))))))
    refine WO.load e1 ((hoth B (Ne.symm hpB)).trans hB) rfl rfl rfl (WO.idxL rfl rfl rfl hi ?_)
    refine WO.store (ob' := .cells (pageCells (setBytes P off (i + 1) (fillV b (i + 1))))) rfl rfl rfl rfl hpc rfl (by rw [page_len]; show off + i * 1 + 1 ≤ 4096; omega) (by
      show some (AObj.cells (splice _ (off + i * 1) [_])) = _
      rw [Nat.mul_one, fill_step hb (by omega)]) ?_
    refine WO.nil (blockC_norm (thenC_norm (WC.ops ?_)))
    refine WO.add e6 rfl (by simp only [Int.ofNat_eq_natCast]; omega) (by simp only [Int.ofNat_eq_natCast]; omega) (WO.as (b := Int.ofNat (i + 1)) (by simp only [Int.ofNat_eq_natCast]; omega) (WO.mv rfl (WO.nil ?_)))
    exact ⟨j - 1, by omega, rfl, i + 1, by omega, e0, e1, e5, rfl, rfl, look_upd_same hpc, fun k hk => (look_upd_ne hk).trans (hoth k hk)⟩
  · simp only [Int.ofNat_eq_natCast] at hc
    have hi : i = len := by omega
    subst hi
    refine WO.nil (thenC_norm (WC.seq (WC.cond_false rfl (WC.exit (thenC_exit (blockC_exit ?_))))))
    refine ⟨_, _, rfl, rfl, rfl, rfl, fun k => ?_⟩
    show look k tbl = _
    by_cases hk : k = p
    · subst hk; rw [hpc, look_upd_same hp]
    · rw [hoth k hk, look_upd_ne hk]
end Go.AI
/- What the arena's functions do upon its parts: bytes that are there; Fill. -/
namespace Go.AI
open Go.Proofs
variable {hk : Hook Empty}

/-- All pages in which bytes lie are committed. -/
def There (l : List (Option Nat)) (a k : Nat) : Prop := a + k ≤ l.length * 4096 ∧ (0 < k → ∀ q, a / 4096 ≤ q → q ≤ (a + k - 1) / 4096 → ∃ P, pgAt l q = some P)
theorem allC_get {l : List (Option Nat)} : ∀ (c p : Nat), allC l p c = true → ∀ i, i < c → ∃ P, pgAt l (p + i) = some P
  | 0, p, _, i, h => by omega
  | c + 1, p, h, i, hi => by
    simp only [allC] at h
    cases hp : pgAt l p with
    | none => rw [hp] at h; cases h
    | some P =>
      rw [hp] at h
      rcases Nat.eq_zero_or_pos i with h0 | h0
      · subst h0; exact ⟨P, hp⟩
      · obtain ⟨Q, hQ⟩ := allC_get c (p + 1) h (i - 1) (by omega)
        exact ⟨Q, by rw [← hQ]; congr 1; omega⟩
theorem check_vals (l : List (Option Nat)) (a k : Nat) : checkN l a k = 0 ∨ checkN l a k = 3 := by
  unfold checkN
  cases Nat.ble (Nat.add a k) (Nat.mul l.length 4096) with
  | false => exact .inr rfl
  | true =>
    cases Nat.beq k 0 with
    | true => exact .inl rfl
    | false =>
      cases allC l (Nat.div a 4096) (Nat.succ (Nat.sub (Nat.div (Nat.pred (Nat.add a k)) 4096) (Nat.div a 4096))) with
      | true => exact .inl rfl
      | false => exact .inr rfl
theorem check_there {l : List (Option Nat)} {a k : Nat} (h : checkN l a k = 0) : There l a k := by
  unfold checkN at h
  cases h1 : Nat.ble (Nat.add a k) (Nat.mul l.length 4096) with
  | false => rw [h1] at h; cases h
  | true =>
    rw [h1, cond_true] at h
    rw [Nat.ble_eq] at h1
    refine ⟨h1, fun hk q hq1 hq2 => ?_⟩
    have h2 : Nat.beq k 0 = false := by rw [← Bool.not_eq_true, Nat.beq_eq]; omega
    rw [h2, cond_false] at h
    cases h3 : allC l (Nat.div a 4096) (Nat.succ (Nat.sub (Nat.div (Nat.pred (Nat.add a k)) 4096) (Nat.div a 4096))) with
    | false => rw [h3] at h; cases h
    | true =>
      have h4 : Nat.succ (Nat.sub (Nat.div (Nat.pred (Nat.add a k)) 4096) (Nat.div a 4096)) = (a + k - 1) / 4096 - a / 4096 + 1 := rfl
      rw [h4] at h3
      obtain ⟨P, hP⟩ := allC_get _ _ h3 (q - a / 4096) (by omega)
      refine ⟨P, ?_⟩
      rw [← hP]
      congr 1
      show q = a / 4096 + (q - a / 4096)
      omega
theorem There.step {l : List (Option Nat)} {a k m : Nat} (h : There l a k) (hm : m ≤ k) : There l (a + m) (k - m) := by
  refine ⟨by have := h.1; omega, fun hk q h1 h2 => h.2 (by omega) q ?_ ?_⟩
  · have : a / 4096 ≤ (a + m) / 4096 := Nat.div_le_div_right (by omega)
    omega
  · rw [show a + m + (k - m) - 1 = a + k - 1 by omega] at h2; exact h2
theorem There.set {l : List (Option Nat)} {a k q P' : Nat} (h : There l a k) : There (setPg l q (some P')) a k := by
  refine ⟨by rw [setPg_len]; exact h.1, fun hk j h1 h2 => ?_⟩
  obtain ⟨P, hP⟩ := h.2 hk j h1 h2
  by_cases e : j = q
  · subst e
    refine ⟨P', (pgAt_get _ _ _).2 ?_⟩
    rw [setPg_get, if_pos ⟨rfl, pgAt_lt hP⟩]
  · refine ⟨P, (pgAt_get _ _ _).2 ?_⟩
    rw [setPg_get, if_neg (fun h => e h.1)]
    exact (pgAt_get _ _ _).1 hP
/-- In how many pages bytes lie. -/
def segs (a k : Nat) : Nat := if k = 0 then 0 else (a % 4096 + k + 4095) / 4096
theorem segs_step {a k : Nat} (hk : 0 < k) : segs (a + min k (4096 - a % 4096)) (k - min k (4096 - a % 4096)) + 1 = segs a k := by
  unfold segs
  by_cases h : k ≤ 4096 - a % 4096
  · rw [Nat.min_eq_left h, if_pos (by omega), if_neg (by omega)]; omega
  · rw [Nat.min_eq_right (by omega), if_neg (by omega), if_neg (by omega)]
    have : (a + (4096 - a % 4096)) % 4096 = 0 := by omega
    rw [this]; omega
theorem segs_le (a k : Nat) : segs a k ≤ fuelA k := by
  show segs a k ≤ k / 4096 + 2
  unfold segs
  split <;> omega
end Go.AI
