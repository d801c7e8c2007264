/- The evaluator's operations that only look at temporaries do what the model's do, in any world. No program is named here. -/
import Derived.Test.YtleknndhobpjcaaGreatDoorAiInt
import Derived.Laws.Strings
import Derived.Laws.StructEq
namespace Go.AI
variable {P : Program} {ρ : Ren} {env : List (Nat × Value)} {a : Act} {w : World}

def ER (ρ : Ren) (env : List (Nat × Value)) (a : Act) : Prop := ∀ s v, look s env = some v → VR ρ v (a.tmps.getD s undef)

/-! ### What a value can stand for -/

theorem VR.bool_inv {b : Bool} {v : Value} (h : VR ρ (.bool b) v) : v = .bool b := by
  cases h with | x h => cases h with | flat h => cases h; rfl
theorem VR.int_inv {k : IntKind} {n : Int} {v : Value} (h : VR ρ (.int k n) v) : v = .int k n := by
  cases h with | x h => cases h with | flat h => cases h; rfl
theorem VR.str_inv {s : ByteArray} {v : Value} (h : VR ρ (.string s) v) : v = .string s := by
  cases h with | x h => cases h with | flat h => cases h; rfl
theorem VR.flat_slice {x : Option Addr} {l c : Nat} {v : Value} (h : VR ρ (.slice x l c) v) : FR ρ (.slice x l c) v := by
  cases h with | x h => cases h with | flat h => exact h
theorem VR.flat_ptr {x : Option Addr} {v : Value} (h : VR ρ (.pointer x) v) : FR ρ (.pointer x) v := by
  cases h with | x h => cases h with | flat h => exact h
theorem VR.agg_inv {xs : Array Value} {v : Value} (h : VR ρ (.agg xs) v) : ∃ ys : List Value, v = .agg ⟨ys⟩ ∧ All2 (FR ρ) xs.toList ys := by
  cases h with | x h => cases h with
    | flat h => cases h
    | agg h => exact ⟨_, rfl, h⟩
theorem VR.tup_inv {xs : Array Value} {v : Value} (h : VR ρ (.tuple xs) v) : ∃ ys : List Value, v = .tuple ⟨ys⟩ ∧ All2 (XR ρ) xs.toList ys := by
  cases h with
  | x h => cases h with | flat h => cases h
  | tup h => exact ⟨_, rfl, h⟩
theorem VR.of_flat {x y : Value} (h : FR ρ x y) : VR ρ x y := .x (.flat h)
theorem FR.slice_shape {x : Option Addr} {l c : Nat} {v : Value} (h : FR ρ (.slice x l c) v) : ∃ y d, v = .slice y l d := by
  cases h <;> exact ⟨_, _, rfl⟩

theorem okFlat_sound {v : Value} (h : okFlat v = true) : FR ρ v v := by
  unfold okFlat at h
  split at h
  · exact .bool _
  · exact .int _ _
  · exact .str _
  · exact .nilp
  · exact .nils _ _
  · exact .nilm
  · exact .nilf
  · exact .nili
  · cases h
theorem okFlats {l : List Value} (h : l.all okFlat = true) : All2 (FR ρ) l l := by
  induction l with
  | nil => exact .nil
  | cons x l ih =>
    simp only [List.all_cons, Bool.and_eq_true] at h
    exact .cons (okFlat_sound h.1) (ih h.2)
theorem okConst_sound {v : Value} (h : okConst v = true) : VR ρ v v := by
  unfold okConst at h
  split at h
  · rename_i cs
    exact .x (.agg (xs := cs.toList) (ys := cs.toList) (okFlats h))
  · exact .of_flat (okFlat_sound h)

theorem opd_sound {x : Operand} {y : Opd} {v : Value} (hc : mkOpd x = some y) (he : evo env y = some v) (hE : ER ρ env a) : VR ρ v (a.eval x) := by
  unfold mkOpd at hc
  split at hc
  · injection hc with hc; subst hc; exact hE _ _ he
  · split at hc
    · rename_i hk
      injection hc with hc; subst hc
      simp only [evo, Option.some.injEq] at he; subst he
      exact okConst_sound hk
    · cases hc
  · injection hc with hc; subst hc
    simp only [evo, Option.some.injEq] at he; subst he
    exact .of_flat (.fn _ (cs := []) (ds := []) .nil)
  · cases hc

theorem opt_sound {x : Option Operand} {y : Option Opd} {v : Option Value} (hc : mkOpt x = some y) (he : evopt env y = some v) (hE : ER ρ env a) :
    (x = none ∧ v = none) ∨ ∃ x' v', x = some x' ∧ v = some v' ∧ VR ρ v' (a.eval x') := by
  cases x with
  | none =>
    simp only [mkOpt, Option.some.injEq] at hc; subst hc
    simp only [evopt, Option.some.injEq] at he; exact .inl ⟨rfl, he.symm⟩
  | some x =>
    simp only [mkOpt, Option.map_eq_some_iff] at hc
    obtain ⟨y', hy, rfl⟩ := hc
    simp only [evopt, Option.map_eq_some_iff] at he
    obtain ⟨v', hv, rfl⟩ := he
    exact .inr ⟨x, v', rfl, rfl, opd_sound hy hv hE⟩

theorem opds_sound : ∀ {xs : List Operand} {ys : List Opd} {vs : List Value}, mkOpds xs = some ys → evs env ys = some vs → ER ρ env a → All2 (VR ρ) vs (xs.map a.eval)
  | [], ys, vs, hc, he, _ => by
    simp only [mkOpds, Option.some.injEq] at hc; subst hc
    simp only [evs, Option.some.injEq] at he; subst he
    exact .nil
  | x :: xs, ys, vs, hc, he, hE => by
    simp only [mkOpds] at hc
    split at hc
    · rename_i y s h1 h2
      injection hc with hc; subst hc
      simp only [evs] at he
      split at he
      · rename_i v t h3 h4
        injection he with he; subst he
        exact .cons (opd_sound h1 h3 hE) (opds_sound h2 h4 hE)
      · cases he
    · cases hc

/-! ### The model's small steps -/

theorem run_under {t : TypeId} {d : TypeDesc} (h : P.underlying t = some d) : (underlying t).run P w = .ok d w := by
  simp [underlying, h]
theorem run_info {t : TypeId} {i : TypeInfo} (h : P.info? t = some i) : (typeInfo t).run P w = .ok i w := by
  simp [typeInfo, h]
theorem run_size {t : TypeId} {n : Nat} (h : sizeT P t = some n) : (sizeOf t).run P w = .ok n w := by
  simp only [sizeT, Option.map_eq_some_iff] at h
  obtain ⟨i, hi, rfl⟩ := h
  simp [sizeOf, run_info hi]
theorem run_agg {t : TypeId} {b : Bool} (h : aggT P t = some b) : (isAgg t).run P w = .ok b w := by
  unfold aggT at h
  split at h <;> simp_all [isAgg, run_under]
theorem run_zero {t : TypeId} {z : List Value} (h : zeroOf P t = some z) : ∃ v, (zeroValue t).run P w = .ok v w ∧ v.cells.toList = z ∧ All2 (FR ρ) z z ∧ sizeT P t = some z.length := by
  unfold zeroOf at h
  split at h
  · rename_i i hi
    split at h
    · rename_i v hz
      split at h
      · rename_i hk
        simp only [Option.some.injEq] at h
        simp only [Bool.and_eq_true, Nat.beq_eq] at hk
        refine ⟨v, by simp [zeroValue, run_info hi, hz], h, h ▸ okFlats hk.1, ?_⟩
        simp only [sizeT, hi, Option.map_some, ← hk.2, ← h, Array.length_toList]
      · cases h
    · cases h
  · cases h

theorem bytesEq_eq : ∀ x y : List UInt8, bytesEq x y = (x == y)
  | [], [] => rfl
  | [], _ :: _ => rfl
  | _ :: _, [] => rfl
  | a :: x, b :: y => by simp only [bytesEq, bytesEq_eq x y, List.cons_beq_cons]

theorem toList_eq (x : ByteArray) : x.toList = x.data.toList := by
  exact ByteArray.toList_eq x

theorem strBin_sound {op : BinOp} {t : TypeId} {x y : ByteArray} {v : Value} (h : strBin op x y = some v) :
    (binOp op t (.string x) (.string y)).run P w = .ok v w ∧ FR ρ v v := by
  unfold strBin at h
  cases op <;> simp only [reduceCtorEq, Option.ite_none_right_eq_some, Option.some.injEq] at h
  case add =>
    obtain ⟨hl, rfl⟩ := h
    refine ⟨?_, .str _⟩
    have : ¬ (((x.size + y.size : Nat) : Int) > IntKind.i64.max) := by simp [IntKind.max, IntKind.signed, IntKind.bits]; omega
    simp only [binOp, Op.stringOp, this, if_false, Sem.run_pure]
    have e : x ++ y = ⟨⟨x.data.toList ++ y.data.toList⟩⟩ := by
      apply ByteArray.ext
      rw [ByteArray.data_append]
      apply Array.ext'
      simp
    rw [e]
  all_goals
    subst h
    refine ⟨?_, .bool _⟩
    simp only [binOp, Op.stringOp, bytesEq_eq, toList_eq]
    rfl


/-! ### Held against each other -/

theorem leafT_size {t : TypeId} {k : LK} (h : leafT P t = some k) : sizeT P t = some 1 ∧ aggT P t = some false ∧ (P.underlying t = some .bool ∧ k = .bool ∨ P.underlying t = some .string ∧ k = .str ∨ (∃ j, P.underlying t = some (.int j)) ∧ k = .int) := by
  unfold leafT at h
  cases hb : Nat.beq (((P.info? t).map (·.size)).getD 0) 1 with
  | false => rw [hb] at h; cases h
  | true =>
    rw [hb, cond_true] at h
    rw [Nat.beq_eq] at hb
    refine ⟨?_, ?_⟩
    · unfold sizeT
      cases hi : (P.info? t).map (·.size) with
      | none => rw [hi] at hb; cases hb
      | some n => rw [hi] at hb; exact congrArg some hb
    · split at h <;> simp only [Option.some.injEq, reduceCtorEq] at h <;> subst h <;> rename_i hu <;> simp [aggT, hu]

theorem bytes_beq (a b : ByteArray) : (a == b) = (a.data.toList == b.data.toList) := by
  have e : (a == b) = (a.data == b.data) := by cases a; cases b; rfl
  rw [e, Bool.eq_iff_iff]
  simp only [beq_iff_eq]
  exact ⟨fun e => by rw [e], fun e => Array.toList_inj.1 e⟩

theorem cellEq_sound {t : TypeId} {d : Nat} {k : LK} {x y x' y' : Value} {b : Bool} (hl : leafT P t = some k) (h : cellEq k x y = some b) (hx : FR ρ x x') (hy : FR ρ y y') :
    (Op.equalIn (d + 1) t x' y').run P w = .ok b w := by
  obtain ⟨_, _, hu⟩ := leafT_size hl
  rcases hu with ⟨hu, rfl⟩ | ⟨hu, rfl⟩ | ⟨⟨j, hu⟩, rfl⟩
  · cases x <;> simp only [cellEq, reduceCtorEq] at h
    cases y <;> simp only [reduceCtorEq, Option.some.injEq] at h
    cases hx; cases hy; subst h
    simp [Op.equalIn, run_under hu]
  · cases x <;> simp only [cellEq, reduceCtorEq] at h
    cases y <;> simp only [reduceCtorEq, Option.some.injEq] at h
    cases hx; cases hy; subst h
    simp only [Op.equalIn, Sem.run_bind, run_under hu, Result.andThen_ok, Sem.run_pure, bytesEq_eq, bytes_beq]
  · cases x <;> simp only [cellEq, reduceCtorEq] at h
    cases y <;> simp only [reduceCtorEq, Option.ite_none_right_eq_some, Option.some.injEq] at h
    obtain ⟨rfl, rfl⟩ := h
    cases hx; cases hy
    simp [Op.equalIn, run_under hu, ieqF_eq]

theorem cellsEq_sound {d : Nat} {xs ys : Array Value} : ∀ (fs : List Field) (off : Nat) (ks : List LK) (x y x' y' : List Value) (b : Bool), leafStruct P fs off = some ks → cellsEq ks x y = some b → All2 (FR ρ) x x' → All2 (FR ρ) y y' →
    xs.toList.drop off = x' → ys.toList.drop off = y' → (Op.eqFields (d + 1) xs ys fs).run P w = .ok b w
  | [], off, ks, x, y, x', y', b, hl, h, hx, hy, ex, ey => by
    simp only [leafStruct, Option.some.injEq] at hl; subst hl
    cases x <;> cases y <;> simp only [cellsEq, reduceCtorEq, Option.some.injEq] at h
    subst h; simp [Op.eqFields]
  | f :: fs, off, ks, x, y, x', y', b, hl, h, hx, hy, ex, ey => by
    simp only [leafStruct] at hl
    split at hl
    · rename_i k s hk hs
      cases hc : (f.name != "_" && Nat.beq f.offset off) with
      | false => rw [hc] at hl; cases hl
      | true =>
        rw [hc, cond_true, Option.some.injEq] at hl; subst hl
        simp only [Bool.and_eq_true, bne_iff_ne, ne_eq, Nat.beq_eq] at hc
        obtain ⟨hn, ho⟩ := hc
        obtain ⟨hsz, hag, _⟩ := leafT_size hk
        cases hx with
        | nil => cases y <;> simp [cellsEq] at h
        | cons rx tx =>
          cases hy with
          | nil => simp [cellsEq] at h
          | cons ry ty =>
            rename_i ax bx tlx tlx' ay by' tly tly'
            have gx : xs[f.offset]? = some bx := by rw [ho, ← Array.getElem?_toList, ← List.head?_drop, ex]; rfl
            have gy : ys[f.offset]? = some by' := by rw [ho, ← Array.getElem?_toList, ← List.head?_drop, ey]; rfl
            have ex' : xs.toList.drop (off + 1) = tlx' := by rw [← List.tail_drop, ex]; rfl
            have ey' : ys.toList.drop (off + 1) = tly' := by rw [← List.tail_drop, ey]; rfl
            simp only [cellsEq] at h
            have px : (part f.type xs f.offset).run P w = .ok bx w := by simp [part, run_agg hag, gx]
            have py : (part f.type ys f.offset).run P w = .ok by' w := by simp [part, run_agg hag, gy]
            split at h
            · rename_i hc
              have he := cellEq_sound (P := P) (w := w) (d := d) hk hc rx ry
              simp [Op.eqFields, hn, px, py, he]
              exact cellsEq_sound fs (off + 1) s tlx tly tlx' tly' b hs h tx ty ex' ey'
            · rename_i hc
              have he := cellEq_sound (P := P) (w := w) (d := d) hk hc rx ry
              simp only [Option.some.injEq] at h; subst h
              simp [Op.eqFields, hn, px, py, he]
            · cases h
    · cases hl

theorem maxDepth_eq : Op.maxDepth = 9998 + 1 + 1 := rfl

/-- No guard is asked where the operands are neither structs nor nil interfaces. -/
def noGuard : Value → Bool
  | .agg _ | .nilIface => false
  | _ => true
theorem guard_flat {t : TypeId} {x y : Value} (h : noGuard x = true) (op : BinOp) (u v : Operand) : (eqGuard op t u v x y).run P w = .ok () w := by
  unfold eqGuard
  cases op <;> first | rfl | (cases x <;> first | rfl | (simp [noGuard] at h; done))

section
variable {d : Nat} {t : TypeId}
theorem eq_bool (hu : P.underlying t = some .bool) (a b : Bool) : (Op.equalIn (d + 1) t (.bool a) (.bool b)).run P w = .ok (a == b) w := by
  simp only [Op.equalIn, Sem.run_bind, run_under hu, Result.andThen_ok, Sem.run_pure]
theorem eq_ptr_none {e : TypeId} (hu : P.underlying t = some (.pointer e)) (b : Option Addr) : (Op.equalIn (d + 1) t (.pointer none) (.pointer b)).run P w = .ok b.isNone w := by
  simp only [Op.equalIn, Sem.run_bind, run_under hu, Result.andThen_ok, Sem.run_pure]
theorem eq_ptr_some_none {e : TypeId} (hu : P.underlying t = some (.pointer e)) (a : Addr) : (Op.equalIn (d + 1) t (.pointer (some a)) (.pointer none)).run P w = .ok false w := by
  simp only [Op.equalIn, Sem.run_bind, run_under hu, Result.andThen_ok, Sem.run_pure]
theorem eq_ptr_same {e n : TypeId} (hu : P.underlying t = some (.pointer e)) (hs : sizeT P e = some n) (hn : n ≠ 0) (b o o' : Nat) :
    (Op.equalIn (d + 1) t (.pointer (some ⟨b, o, none⟩)) (.pointer (some ⟨b, o', none⟩))).run P w = .ok (Nat.beq o o') w := by
  simp only [Op.equalIn, Sem.run_bind, run_under hu, Result.andThen_ok, run_size hs, ne_eq, hn, not_false_eq_true, if_true, sameAddr, beq_self_eq_true, Sem.run_pure]
  congr 1
  rw [Bool.eq_iff_iff, Nat.beq_eq, beq_iff_eq]
  simp
theorem eq_slc_none {e : TypeId} (hu : P.underlying t = some (.slice e)) (b : Option Addr) (l c l' c' : Nat) : (Op.equalIn (d + 1) t (.slice none l c) (.slice b l' c')).run P w = .ok b.isNone w := by
  simp only [Op.equalIn, Sem.run_bind, run_under hu, Result.andThen_ok, Sem.run_pure]
theorem eq_slc_some_none {e : TypeId} (hu : P.underlying t = some (.slice e)) (a : Addr) (l c l' c' : Nat) : (Op.equalIn (d + 1) t (.slice (some a) l c) (.slice none l' c')).run P w = .ok false w := by
  simp only [Op.equalIn, Sem.run_bind, run_under hu, Result.andThen_ok, Sem.run_pure]
theorem eq_fn_nn {p r : Array TypeId} {v : Bool} (hu : P.underlying t = some (.func p r v)) : (Op.equalIn (d + 1) t .nilFunc .nilFunc).run P w = .ok true w := by
  simp only [Op.equalIn, Sem.run_bind, run_under hu, Result.andThen_ok, Sem.run_pure]
theorem eq_fn_nf {p r : Array TypeId} {v : Bool} (hu : P.underlying t = some (.func p r v)) (f : Fn) (x y : Array Value) : (Op.equalIn (d + 1) t .nilFunc (.func f x y)).run P w = .ok false w := by
  simp only [Op.equalIn, Sem.run_bind, run_under hu, Result.andThen_ok, Sem.run_pure]
theorem eq_fn_fn {p r : Array TypeId} {v : Bool} (hu : P.underlying t = some (.func p r v)) (f : Fn) (x y : Array Value) : (Op.equalIn (d + 1) t (.func f x y) .nilFunc).run P w = .ok false w := by
  simp only [Op.equalIn, Sem.run_bind, run_under hu, Result.andThen_ok, Sem.run_pure]
end

/-- The type goes with the way of holding against each other. -/
theorem eqk_inv (t : TypeId) : match eqk P t with
    | .num => P.underlying t = some .bool
    | .ptr => ∃ e n, P.underlying t = some (.pointer e) ∧ sizeT P e = some n ∧ n ≠ 0
    | .slc => ∃ e, P.underlying t = some (.slice e)
    | .func => ∃ p r v, P.underlying t = some (.func p r v)
    | .agg ks => ∃ fs, P.underlying t = some (.struct fs) ∧ leafStruct P fs.toList 0 = some ks ∧ P.stoodInHeld t = false ∧ P.eqGuardType P.depth t = false
    | _ => True := by
  cases hu : P.underlying t with
  | none => simp [eqk, hu]
  | some u =>
    cases u with
    | bool => simp [eqk, hu]
    | pointer e =>
      cases hi : P.info? e with
      | none => simp [eqk, hu, hi]
      | some i =>
        by_cases hz : i.size = 0
        · simp [eqk, hu, hi, hz]
        · simp [eqk, hu, hi, hz, sizeT]
    | slice e => simp [eqk, hu]
    | func p r v => simp [eqk, hu]
    | «struct» fs =>
      cases hl : leafStruct P fs.toList 0 with
      | none => simp [eqk, hu, hl]
      | some ks =>
        cases h1 : P.stoodInHeld t <;> cases h2 : P.eqGuardType P.depth t <;> simp [eqk, hu, hl, h1, h2]
    | _ => simp [eqk, hu]

theorem noGuard_of {x x' : Value} (h : VR ρ x x') (hx : noGuard x = true) : noGuard x' = true := by
  cases h with
  | x h => cases h with
    | flat h => cases h <;> first | rfl | (simp [noGuard] at hx; done)
    | agg h => simp [noGuard] at hx
  | tup h => rfl

theorem eqValIn_sound {d : Nat} {t : TypeId} {x y x' y' : Value} {b : Bool} (h : eqVal (eqk P t) x y = some b) (hx : VR ρ x x') (hy : VR ρ y y') :
    (Op.equalIn (d + 1 + 1) t x' y').run P w = .ok b w ∧ ∀ op u v, (eqGuard op t u v x' y').run P w = .ok () w := by
  have hk := eqk_inv (P := P) t
  generalize eqk P t = e at h hk
  cases e with
  | num =>
    unfold eqVal at h
    split at h <;> first | contradiction | skip
    all_goals simp only [Option.some.injEq, reduceCtorEq] at *
    subst h
    cases hx.bool_inv; cases hy.bool_inv
    exact ⟨eq_bool hk _ _, guard_flat rfl⟩
  | ptr =>
    obtain ⟨e, n, hu, hs, hn⟩ := hk
    unfold eqVal at h
    split at h <;> first | contradiction | skip
    all_goals simp only [Option.some.injEq, reduceCtorEq] at *
    · subst h
      cases hx.flat_ptr
      have hy := hy.flat_ptr
      cases hy <;> exact ⟨eq_ptr_none hu _, guard_flat rfl⟩
    · subst h
      cases hx.flat_ptr
      cases hy.flat_ptr
      exact ⟨eq_ptr_some_none hu _, guard_flat rfl⟩
    · rename_i p q _ _ _
      cases hx.flat_ptr with
      | ptr hp => cases hy.flat_ptr with
        | ptr hq =>
          rename_i i1 b1 s1 o1 i2 b2 s2 o2
          cases hb : Nat.beq i1 i2 with
          | false => simp only [hb, cond_false, reduceCtorEq] at h
          | true =>
            simp only [hb, cond_true, Option.some.injEq] at h; subst h
            rw [Nat.beq_eq] at hb; subst hb
            rw [hp] at hq; injection hq with hq; injection hq with h1 h2; subst h1; subst h2
            exact ⟨eq_ptr_same hu hs hn _ _ _, guard_flat rfl⟩
  | slc =>
    obtain ⟨e, hu⟩ := hk
    unfold eqVal at h
    split at h <;> first | contradiction | skip
    all_goals simp only [Option.some.injEq, reduceCtorEq] at *
    · subst h
      cases hx.flat_slice
      have hy := hy.flat_slice
      cases hy <;> exact ⟨eq_slc_none hu _ _ _ _ _, guard_flat rfl⟩
    · subst h
      cases hy.flat_slice
      have hx := hx.flat_slice
      cases hx <;> exact ⟨eq_slc_some_none hu _ _ _ _ _, guard_flat rfl⟩
  | iface => unfold eqVal at h; split at h <;> first | contradiction | simp only [reduceCtorEq] at *
  | no => unfold eqVal at h; split at h <;> first | contradiction | simp only [reduceCtorEq] at *
  | func =>
    obtain ⟨p, r, v, hu⟩ := hk
    unfold eqVal at h
    split at h <;> first | contradiction | skip
    all_goals simp only [Option.some.injEq, reduceCtorEq] at *
    · subst h
      cases hx with | x hx => cases hx with | flat hx => cases hx; cases hy with | x hy => cases hy with | flat hy => cases hy; exact ⟨eq_fn_nn hu, guard_flat rfl⟩
    · subst h
      cases hx with | x hx => cases hx with | flat hx => cases hx; cases hy with | x hy => cases hy with | flat hy => cases hy; exact ⟨eq_fn_nf hu _ _ _, guard_flat rfl⟩
    · subst h
      cases hy with | x hy => cases hy with | flat hy => cases hy; cases hx with | x hx => cases hx with | flat hx => cases hx; exact ⟨eq_fn_fn hu _ _ _, guard_flat rfl⟩
  | agg ks =>
    obtain ⟨fs, hu, hl, hst, hg⟩ := hk
    unfold eqVal at h
    split at h <;> first | contradiction | skip
    all_goals simp only [reduceCtorEq, EqK.agg.injEq] at *
    rename_i a b' hk'
    subst hk'
    obtain ⟨xs, rfl, hxs⟩ := hx.agg_inv
    obtain ⟨ys, rfl, hys⟩ := hy.agg_inv
    have hf : P.fieldsOf t = fs := by simp [Program.fieldsOf, hu]
    refine ⟨?_, ?_⟩
    · rw [run_equalIn_struct w (d + 1) t ⟨xs⟩ ⟨ys⟩ (by rw [hf]; exact hu) hst, hf]
      exact cellsEq_sound fs.toList 0 ks _ _ _ _ b hl h hxs hys rfl rfl
    · intro op u v
      unfold eqGuard
      cases op <;> first | rfl | skip
      all_goals simp [hg]

theorem eqVal_sound {t : TypeId} {x y x' y' : Value} {b : Bool} (h : eqVal (eqk P t) x y = some b) (hx : VR ρ x x') (hy : VR ρ y y') :
    (Op.equal t x' y').run P w = .ok b w ∧ ∀ op u v, (eqGuard op t u v x' y').run P w = .ok () w :=
  eqValIn_sound (d := 9998) h hx hy


theorem binVal_sound {op : BinOp} {t : TypeId} {x y x' y' : Value} {v : Value} {ox oy : Operand} (h : binVal op (eqk P t) x y = some v) (hx : VR ρ x x') (hy : VR ρ y y') :
    (do eqGuard op t ox oy x' y'; binOp op t x' y' : Sem Value).run P w = .ok v w ∧ VR ρ v v := by
  unfold binVal at h
  split at h
  · cases hx.int_inv; cases hy.int_inv
    obtain ⟨h1, h2⟩ := intBin_sound (P := P) (w := w) (t := t) h
    exact ⟨by rw [Sem.run_bind, guard_flat rfl]; exact h1, .of_flat (h2 ρ)⟩
  · cases hx.str_inv; cases hy.str_inv
    obtain ⟨h1, h2⟩ := strBin_sound (P := P) (w := w) (ρ := ρ) (t := t) h
    exact ⟨by rw [Sem.run_bind, guard_flat rfl]; exact h1, .of_flat h2⟩
  · rename_i hn1 hn2
    have key : ∀ b, eqVal (eqk P t) x y = some b → (eqGuard op t ox oy x' y').run P w = .ok () w ∧
        (op = .eql → (binOp op t x' y').run P w = .ok (.bool b) w) ∧ (op = .neq → (binOp op t x' y').run P w = .ok (.bool (!b)) w) := by
      intro b hb
      obtain ⟨h1, h2⟩ := eqVal_sound (P := P) (w := w) hb hx hy
      have hi : ∀ k n, x' = .int k n → False := by
        intro k n e; subst e
        cases hx with | x hx => cases hx with | flat hx => cases hx; unfold eqVal at hb; split at hb <;> simp_all
      have hs : ∀ s, x' = .string s → False := by
        intro s e; subst e
        cases hx with | x hx => cases hx with | flat hx => cases hx; unfold eqVal at hb; split at hb <;> simp_all
      have hf : ∀ k s, x' = .float k s → False := by
        intro k s e; subst e
        cases hx with | x hx => cases hx with | flat hx => cases hx
      have hc : ∀ k s r, x' = .complex k s r → False := by
        intro k s r e; subst e
        cases hx with | x hx => cases hx with | flat hx => cases hx
      refine ⟨h2 _ _ _, ?_, ?_⟩
      · intro e; subst e
        unfold binOp
        split <;> first | (simp at *; done) | skip
        all_goals first | (exact (hi _ _ rfl).elim) | (exact (hf _ _ rfl).elim) | (exact (hc _ _ _ rfl).elim) | (exact (hs _ rfl).elim) | (simp [h1]; done) | (simp_all; done)
      · intro e; subst e
        unfold binOp
        split <;> first | (simp at *; done) | skip
        all_goals first | (exact (hi _ _ rfl).elim) | (exact (hf _ _ rfl).elim) | (exact (hc _ _ _ rfl).elim) | (exact (hs _ rfl).elim) | (simp [h1]; done) | (simp_all; done)
    split at h
    · simp only [Option.map_eq_some_iff] at h
      obtain ⟨b, hb, rfl⟩ := h
      obtain ⟨k1, k2, _⟩ := key b hb
      exact ⟨by rw [Sem.run_bind, k1]; exact k2 rfl, .of_flat (.bool _)⟩
    · simp only [Option.map_eq_some_iff] at h
      obtain ⟨b, hb, rfl⟩ := h
      obtain ⟨k1, _, k2⟩ := key b hb
      exact ⟨by rw [Sem.run_bind, k1]; exact k2 rfl, .of_flat (.bool _)⟩
    · cases h

end Go.AI
