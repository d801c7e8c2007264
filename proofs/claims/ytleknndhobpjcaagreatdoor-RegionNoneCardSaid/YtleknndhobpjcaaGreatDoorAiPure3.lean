/- Each operation that only looks at temporaries: the evaluator's answer stands for the model's, in any world. No program is named here. -/
import Derived.Test.YtleknndhobpjcaaGreatDoorAiPure2
namespace Go.AI
variable {P : Program} {ρ : Ren} {env : List (Nat × Value)} {a : Act} {w : World}

/-- What is to be shown of one operation. -/
def PureOk (P : Program) (ρ : Ren) (env : List (Nat × Value)) (a : Act) (op : Op) : Prop :=
  ∀ (p : PureOp) (v : Value), mkPure P op = some p → peval env p = some v → ER ρ env a → ∀ (w : World) (dst : Option Tmp) (ty : TypeId) (pos : String) (af : Array Edge) (g : Option (Nat × Bool)),
    ∃ v', (execOp a.eval ⟨dst, op, ty, pos, af, g⟩).run P w = .ok (.value v') w ∧ VR ρ v v'

theorem pure_move (x : Operand) : PureOk P ρ env a (.move x) := by
  intro p v hc he hE w dst ty pos af g
  simp only [mkPure, Option.map_eq_some_iff] at hc
  obtain ⟨y, hy, rfl⟩ := hc
  exact ⟨_, rfl, opd_sound hy he hE⟩
theorem pure_assign (x : Operand) : PureOk P ρ env a (.assign x) := by
  intro p v hc he hE w dst ty pos af g
  simp only [mkPure, Option.map_eq_some_iff] at hc
  obtain ⟨y, hy, rfl⟩ := hc
  exact ⟨_, rfl, opd_sound hy he hE⟩

theorem pure_pick (c x y : Operand) : PureOk P ρ env a (.pick c x y) := by
  intro p v hc he hE w dst ty pos af g
  simp only [mkPure] at hc
  split at hc
  · rename_i c' x' y' h1 h2 h3
    injection hc with hc; subst hc
    simp only [peval] at he
    split at he
    · rename_i hb
      have := (opd_sound h1 hb hE).bool_inv
      exact ⟨_, by simp only [execOp, this, asBool, Sem.run_bind, Sem.run_pure, Result.andThen_ok, if_true], opd_sound h2 he hE⟩
    · rename_i hb
      have := (opd_sound h1 hb hE).bool_inv
      exact ⟨_, by simp only [execOp, this, asBool, Sem.run_bind, Sem.run_pure, Result.andThen_ok, Bool.false_eq_true, if_false], opd_sound h3 he hE⟩
    · cases he
  · cases hc

theorem pure_bin (op : BinOp) (t : TypeId) (x y : Operand) (t' : TypeId) : PureOk P ρ env a (.binOp op t x y t') := by
  intro p v hc he hE w dst ty pos af g
  simp only [mkPure] at hc
  split at hc
  · rename_i x' y' h1 h2
    injection hc with hc; subst hc
    simp only [peval] at he
    split at he
    · rename_i u z h3 h4
      obtain ⟨k1, k2⟩ := binVal_sound (P := P) (w := w) (ox := x) (oy := y) he (opd_sound h1 h3 hE) (opd_sound h2 h4 hE)
      exact ⟨v, ok_v k1, k2⟩
    · cases he
  · cases hc

theorem pure_un (op : UnOp) (t : TypeId) (x : Operand) : PureOk P ρ env a (.unOp op t x) := by
  intro p v hc he hE w dst ty pos af g
  cases op <;> simp only [mkPure, Option.map_eq_some_iff, reduceCtorEq] at hc
  all_goals obtain ⟨y, hy, rfl⟩ := hc
  all_goals simp only [peval] at he
  · split at he
    · rename_i k n hx
      injection he with he; subst he
      refine ⟨.int k (wrapF k (0 - n)), ok_v ?_, .of_flat (.int _ _)⟩
      rw [(opd_sound hy hx hE).int_inv, wrapF_eq]
      rfl
    · cases he
  · split at he
    · rename_i k n hx
      simp only [Option.map_eq_some_iff] at he
      obtain ⟨r, hr, rfl⟩ := he
      refine ⟨.int k r, ok_v ?_, .of_flat (.int _ _)⟩
      rw [(opd_sound hy hx hE).int_inv]
      exact bitsS_sound hr
    · cases he
  · split at he
    · rename_i b hx
      injection he with he; subst he
      refine ⟨.bool (!b), ok_v ?_, .of_flat (.bool _)⟩
      rw [(opd_sound hy hx hE).bool_inv]
      rfl
    · cases he

theorem pure_conv (s d : TypeId) (x : Operand) : PureOk P ρ env a (.convert s d x) := by
  intro p v hc he hE w dst ty pos af g
  simp only [mkPure] at hc
  split at hc
  · rename_i us k h1 h2
    simp only [Option.map_eq_some_iff] at hc
    obtain ⟨y, hy, rfl⟩ := hc
    simp only [peval] at he
    split at he
    · rename_i j n hx
      injection he with he; subst he
      refine ⟨.int k (wrapF k n), ok_v ?_, .of_flat (.int _ _)⟩
      rw [(opd_sound hy hx hE).int_inv, wrapF_eq]
      simp only [convert, Sem.run_bind, run_under h1, run_under h2, Result.andThen_ok]
      rfl
    · cases he
  · rename_i h1 h2
    simp only [Option.map_eq_some_iff] at hc
    obtain ⟨y, hy, rfl⟩ := hc
    simp only [peval] at he
    split at he
    · rename_i q hx
      injection he with he; subst he
      refine ⟨.string q, ok_v ?_, .of_flat (.str _)⟩
      rw [(opd_sound hy hx hE).str_inv]
      simp only [convert, Sem.run_bind, run_under h1, run_under h2, Result.andThen_ok]
      rfl
    · cases he
  · cases hc

theorem pure_slice (t : TypeId) (x : Operand) (lo hi mx : Option Operand) : PureOk P ρ env a (.slice t x lo hi mx) := by
  intro p v hc he hE w dst ty pos af g
  simp only [mkPure] at hc
  split at hc
  · rename_i x' lo' hi' mx' h1 h2 h3 h4
    split at hc
    · rename_i hu
      split at hc
      · injection hc with hc; subst hc
        simp only [peval] at he
        split at he
        · rename_i s l hh hx hl hhi
          split at he
          · rename_i l' h' m hb
            injection he with he; subst he
            have rm : mx = none := by
              cases mx with
              | none => rfl
              | some m => simp [mkOpt] at h4
            subst rm
            obtain ⟨k1, k2, k3, k4, k5⟩ := bounds_sound (P := P) (w := w) (s := false) hb rfl (Nat.le_refl _) (optR_of h2 hl hE) (optR_of h3 hhi hE) .none
            refine ⟨.string (s.extract l' h'), ok_v ?_, ?_⟩
            · rw [(opd_sound h1 hx hE).str_inv]
              simp only [Instr.sliceAt, Instr.slice, Sem.run_bind, run_under hu, Result.andThen_ok, Option.map_none, Option.isSome_none, Bool.false_eq_true, if_false, Sem.run_pure]
              rw [k1]
              rfl
            · have : s.extract l' h' = ⟨⟨(s.data.toList.drop l').take (h' - l')⟩⟩ := by
                apply ByteArray.ext
                rw [ByteArray.data_extract]
                apply Array.ext'
                simp [Array.toList_extract]
              rw [this]
              exact .of_flat (.str _)
          · cases he
        · cases he
      · cases hc
    · rename_i e hu
      simp only [Option.map_eq_some_iff] at hc
      obtain ⟨n, hn, rfl⟩ := hc
      simp only [peval] at he
      split at he
      · rename_i ad len cap l hh m hx hl hhi hmx
        have hx' := (opd_sound h1 hx hE).flat_slice
        obtain ⟨y', c', hy'⟩ := hx'.slice_shape
        rw [hy'] at hx'
        obtain ⟨l', h', m', v', k1, k2, k3⟩ := sliceL_sound (P := P) (w := w) (s := true) he hx' (optR_of h2 hl hE) (optR_of h3 hhi hE) (optR_of h4 hmx hE)
        refine ⟨v', ok_v ?_, .of_flat k3⟩
        rw [hy', k2]
        simp only [Instr.sliceAt, Instr.slice, Sem.run_bind, run_under hu, Result.andThen_ok, k1, run_size hn, Sem.run_pure]
      · cases he
    · rename_i n e hu
      simp only [Option.map_eq_some_iff] at hc
      obtain ⟨m0, hn, rfl⟩ := hc
      simp only [peval] at he
      split at he
      · rename_i i o l hh m hx hl hhi hmx
        cases hq : a.eval x with
        | pointer q =>
          have hx' := (opd_sound h1 hx hE)
          rw [hq] at hx'
          cases hx'.flat_ptr with
          | ptr hr =>
            obtain ⟨l', h', m', v', k1, k2, k3⟩ := sliceL_sound (P := P) (w := w) (s := false) he (.slx hr) (optR_of h2 hl hE) (optR_of h3 hhi hE) (optR_of h4 hmx hE)
            refine ⟨v', ok_v ?_, .of_flat k3⟩
            rw [hq, k2]
            simp only [Instr.sliceAt, Instr.sureAddr, Sem.run_bind, run_under hu, Result.andThen_ok, k1, run_size hn, Sem.run_pure, Option.map_some]
            split <;> rfl
        | _ => 
          have hx' := (opd_sound h1 hx hE)
          rw [hq] at hx'
          cases hx'.flat_ptr
      · cases he
    · cases hc
  · cases hc

theorem pure_nilck (x : Operand) : PureOk P ρ env a (.nilCheck x) := by
  intro p v hc he hE w dst ty pos af g
  simp only [mkPure, Option.map_eq_some_iff] at hc
  obtain ⟨y, hy, rfl⟩ := hc
  simp only [peval] at he
  split at he
  · rename_i ad hx
    injection he with he; subst he
    have hx' := opd_sound hy hx hE
    refine ⟨a.eval x, ?_, hx'⟩
    cases hq : a.eval x <;> rw [hq] at hx' <;> have hf := hx'.flat_ptr <;> cases hf
    simp [execOp, hq]
  · cases he

theorem field_place {t : TypeId} {i : TypeInfo} {f : Field} (hf : f.type = t) (hi : P.info? t = some i) (hz : i.size ≠ 0) (b o : Nat) : (fieldPlace ⟨b, o, none⟩ f).run P w = .ok ⟨b, o + f.offset, none⟩ w := by
  subst hf
  have hs : sizeT P f.type = some i.size := by simp [sizeT, hi]
  simp only [fieldPlace, Sem.run_bind, run_size hs, Result.andThen_ok, hz, if_false, Sem.run_pure, add_addr]

theorem pure_fadd (s : TypeId) (x : Operand) (f : Nat) : PureOk P ρ env a (.fieldAddr s x f) := by
  intro p v hc he hE w dst ty pos af g
  simp only [mkPure] at hc
  split at hc
  · rename_i fs hu
    split at hc
    · rename_i fl hf
      split at hc
      · rename_i i hi
        split at hc
        · cases hc
        · rename_i hz
          simp only [Option.map_eq_some_iff] at hc
          obtain ⟨y, hy, rfl⟩ := hc
          simp only [peval] at he
          split at he
          · rename_i b o hx
            injection he with he; subst he
            have hx' := opd_sound hy hx hE
            cases hq : a.eval x <;> rw [hq] at hx' <;> have hf2 := hx'.flat_ptr <;> cases hf2
            rename_i hr
            refine ⟨_, ok_v (v := .pointer (some ⟨_, o + fl.offset, none⟩)) ?_, .of_flat (.ptr hr)⟩
            rw [hq]
            simp only [Instr.fieldAt, Instr.sureAddr, Sem.run_bind, run_under hu, Result.andThen_ok, hf, Sem.run_pure, field_place rfl hi hz]
          · cases he
      · cases hc
    · cases hc
  · cases hc

theorem pure_idx (t : TypeId) (x i : Operand) : PureOk P ρ env a (.indexAddr t x i) := by
  intro p v hc he hE w dst ty pos af g
  simp only [mkPure] at hc
  split at hc
  · rename_i x' i' h1 h2
    split at hc
    · rename_i e hu
      simp only [Option.map_eq_some_iff] at hc
      obtain ⟨n, hn, rfl⟩ := hc
      simp only [peval] at he
      split at he
      · rename_i b o sp len cp vi hx hi
        split at he
        · rename_i k hk
          cases hlt : Nat.blt k len with
          | false => rw [hlt] at he; cases he
          | true =>
            rw [hlt, cond_true] at he; injection he with he; subst he
            rw [blt_iff, decide_eq_true_eq] at hlt
            obtain ⟨kk, rfl⟩ := natOf_inv hk
            have hi' := (opd_sound h2 hi hE).int_inv
            have hx' := (opd_sound h1 hx hE).flat_slice
            obtain ⟨y', c', hy'⟩ := hx'.slice_shape
            rw [hy'] at hx'
            obtain ⟨b', s', hr, rfl⟩ : ∃ b' s', ρ b = some (b', s') ∧ y' = some ⟨b', o, none⟩ := by
              cases hx' with
              | slc hr => exact ⟨_, _, hr, rfl⟩
              | slx hr => exact ⟨_, _, hr, rfl⟩
              | slz hr => omega
            refine ⟨_, ok_v (v := .pointer (some ⟨b', o + k * n, none⟩)) ?_, .of_flat (.ptr hr)⟩
            rw [hy', hi']
            have hin : (0 : Int) ≤ Int.ofNat k ∧ Int.ofNat k < (len : Int) := ⟨by simp, by simp; exact_mod_cast hlt⟩
            simp only [Instr.indexAt, asIntOf, Sem.run_bind, run_under hu, Result.andThen_ok, Sem.run_pure]
            rw [if_pos hin]
            simp only [Sem.run_bind, run_size hn, Result.andThen_ok, Sem.run_pure, add_addr, Int.ofNat_eq_natCast, Int.toNat_natCast]
        · cases he
      · cases he
    · rename_i len e hu
      simp only [Option.map_eq_some_iff] at hc
      obtain ⟨n, hn, rfl⟩ := hc
      simp only [peval] at he
      split at he
      · rename_i b o vi hx hi
        split at he
        · rename_i k hk
          cases hlt : Nat.blt k len with
          | false => rw [hlt] at he; cases he
          | true =>
            rw [hlt, cond_true] at he; injection he with he; subst he
            rw [blt_iff, decide_eq_true_eq] at hlt
            obtain ⟨kk, rfl⟩ := natOf_inv hk
            have hi' := (opd_sound h2 hi hE).int_inv
            have hx' := opd_sound h1 hx hE
            cases hq : a.eval x <;> rw [hq] at hx' <;> have hf2 := hx'.flat_ptr <;> cases hf2
            rename_i b' s' hr
            refine ⟨_, ok_v (v := .pointer (some ⟨b', o + k * n, none⟩)) ?_, .of_flat (.ptr hr)⟩
            rw [hq, hi']
            have hin : (0 : Int) ≤ Int.ofNat k ∧ Int.ofNat k < (len : Int) := ⟨by simp, by simp; exact_mod_cast hlt⟩
            simp only [Instr.indexAt, Instr.sureAddr, asIntOf, Sem.run_bind, run_under hu, Result.andThen_ok, Sem.run_pure]
            rw [if_pos hin]
            simp only [Sem.run_bind, run_size hn, Result.andThen_ok, Sem.run_pure, add_addr, Int.ofNat_eq_natCast, Int.toNat_natCast]
        · cases he
      · cases he
    · cases hc
  · cases hc


theorem arr_get {α : Type} (l : List α) (n : Nat) : (⟨l⟩ : Array α)[n]? = l[n]? := by
  rw [show (⟨l⟩ : Array α) = l.toArray from rfl]; simp

theorem takeN_sound {cs cs' r : List Value} {off n : Nat} (h : takeN cs off n = some r) (hc : All2 (FR ρ) cs cs') : All2 (FR ρ) r ((cs'.drop off).take n) ∧ r.length = n := by
  unfold takeN at h
  simp only at h
  cases hb : Nat.beq ((cs.drop off).take n).length n with
  | false => rw [hb] at h; cases h
  | true =>
    rw [hb, cond_true, Option.some.injEq] at h
    rw [Nat.beq_eq] at hb
    subst h
    exact ⟨(hc.drop off).take n, hb⟩

/-- One part of a struct's or an array's cells. -/
theorem part_sound {t : TypeId} {cs cs' : List Value} {off n : Nat} {g : Bool} {r : List Value} {v : Value} (hg : aggT P t = some g) (hn : sizeT P t = some n) (h : takeN cs off (bif g then n else 1) = some r) (ho : oneOf g r = some v) (hc : All2 (FR ρ) cs cs') :
    ∃ v', (part t ⟨cs'⟩ off).run P w = .ok v' w ∧ VR ρ v v' := by
  obtain ⟨h1, h2⟩ := takeN_sound h hc
  unfold oneOf at ho
  cases g with
  | true =>
    simp only [cond_true, Option.some.injEq] at ho h1 h2; subst ho
    refine ⟨.agg ⟨(cs'.drop off).take n⟩, ?_, .x (.agg h1)⟩
    simp only [part, Sem.run_bind, run_agg hg, Result.andThen_ok, if_true, run_size hn, Sem.run_pure]
    congr 2
    apply Array.ext'
    simp [Array.toList_extract]
  | false =>
    simp only [cond_false] at ho h1 h2
    split at ho
    · rename_i x
      injection ho with ho; subst ho
      cases hd : (cs'.drop off).take 1 with
      | nil => rw [hd] at h1; cases h1
      | cons y l =>
        rw [hd] at h1
        cases h1 with
        | cons hf ht =>
          have hy : (⟨cs'⟩ : Array Value)[off]? = some y := by
            rw [arr_get]
            rw [← List.head?_drop]
            cases hdd : cs'.drop off with
            | nil => rw [hdd] at hd; simp at hd
            | cons z l' => rw [hdd] at hd; simp at hd; simp [hd.1]
          refine ⟨y, ?_, .of_flat hf⟩
          simp only [part, Sem.run_bind, run_agg hg, Result.andThen_ok, Bool.false_eq_true, if_false, hy, Sem.run_pure]
    · cases ho

theorem bytesAt_eq : ∀ (l : List UInt8) (n : Nat), bytesAt l n = l[n]?
  | [], n => by cases n <;> rfl
  | b :: l, 0 => rfl
  | b :: l, n + 1 => by simp [bytesAt, bytesAt_eq l n]

theorem pure_index (t : TypeId) (x i : Operand) : PureOk P ρ env a (.index t x i) := by
  intro p v hc he hE w dst ty pos af g
  simp only [mkPure] at hc
  split at hc
  · rename_i x' i' h1 h2
    split at hc
    · rename_i hu
      injection hc with hc; subst hc
      simp only [peval] at he
      split at he
      · rename_i s vi hx hi
        split at he
        · rename_i k hk
          split at he
          · rename_i b hb
            injection he with he; subst he
            obtain ⟨kk, rfl⟩ := natOf_inv hk
            refine ⟨_, ok_v (v := .int .u8 b.toNat) ?_, .of_flat (.int _ _)⟩
            rw [(opd_sound h1 hx hE).str_inv, (opd_sound h2 hi hE).int_inv]
            rw [bytesAt_eq] at hb
            have hb' : s[k]? = some b := by
              rw [← hb]
              simp only [getElem?_def, ByteArray.getElem_eq_getElem_data, Array.length_toList, Array.getElem_toList]
              rfl
            have h0 : (0 : Int) ≤ Int.ofNat k := by simp
            simp only [Instr.index, asIntOf, Sem.run_bind, run_under hu, Result.andThen_ok, Sem.run_pure]
            rw [if_pos h0]
            simp only [Int.ofNat_eq_natCast, Int.toNat_natCast, hb', Sem.run_pure]
          · cases he
        · cases he
      · cases he
    · rename_i n e hu
      split at hc
      · rename_i m ag h3 h4
        injection hc with hc; subst hc
        simp only [peval] at he
        split at he
        · rename_i cs vi hx hi
          split at he
          · rename_i k hk
            cases hlt : Nat.blt k n with
            | false => rw [hlt] at he; cases he
            | true =>
              rw [hlt, cond_true] at he
              rw [blt_iff, decide_eq_true_eq] at hlt
              split at he
              · rename_i r hr
                obtain ⟨kk, rfl⟩ := natOf_inv hk
                obtain ⟨ys, hy, hall⟩ := (opd_sound h1 hx hE).agg_inv
                obtain ⟨v', k1, k2⟩ := part_sound (P := P) (w := w) h4 h3 hr he hall
                refine ⟨v', ok_v ?_, k2⟩
                rw [hy, (opd_sound h2 hi hE).int_inv]
                have hin : (0 : Int) ≤ Int.ofNat k ∧ Int.ofNat k < (n : Int) := ⟨by simp, by simp; exact_mod_cast hlt⟩
                simp only [Instr.index, asIntOf, Sem.run_bind, run_under hu, Result.andThen_ok, Sem.run_pure]
                rw [if_pos hin]
                simp only [Sem.run_bind, run_size h3, Result.andThen_ok, Int.ofNat_eq_natCast, Int.toNat_natCast, k1]
              · cases he
          · cases he
        · cases he
      · cases hc
    · cases hc
  · cases hc

theorem pure_field (t : TypeId) (x : Operand) (f : Nat) : PureOk P ρ env a (.field t x f) := by
  intro p v hc he hE w dst ty pos af g
  simp only [mkPure] at hc
  split at hc
  · rename_i fs hu
    split at hc
    · rename_i fl hf
      split at hc
      · rename_i n ag y h1 h2 h3
        injection hc with hc; subst hc
        simp only [peval] at he
        split at he
        · rename_i cs hx
          split at he
          · rename_i r hr
            obtain ⟨ys, hy, hall⟩ := (opd_sound h3 hx hE).agg_inv
            obtain ⟨v', k1, k2⟩ := part_sound (P := P) (w := w) h2 h1 hr he hall
            refine ⟨v', ok_v ?_, k2⟩
            rw [hy]
            simp only [Instr.field, asAgg, Sem.run_bind, run_under hu, Result.andThen_ok, hf, Sem.run_pure, k1]
          · cases he
        · cases he
      · cases hc
    · cases hc
  · cases hc

theorem pure_extract (x : Operand) (k : Nat) : PureOk P ρ env a (.extract x k) := by
  intro p v hc he hE w dst ty pos af g
  simp only [mkPure, Option.map_eq_some_iff] at hc
  obtain ⟨y, hy, rfl⟩ := hc
  simp only [peval] at he
  split at he
  · rename_i vs hx
    obtain ⟨ys, hq, hall⟩ := (opd_sound hy hx hE).tup_inv
    obtain ⟨b, hb, hr⟩ := hall.get k v he
    refine ⟨b, ok_v ?_, .x hr⟩
    rw [hq]
    have : (⟨ys⟩ : Array Value)[k]? = some b := by rw [arr_get]; exact hb
    simp only [Instr.extract, this, Sem.run_pure]
  · cases he

theorem ptrs_sound : ∀ {vs : List Value} {as : List Addr} {ws : List Value}, ptrs vs = some as → All2 (VR ρ) vs ws → ∃ bs : List Addr, ws = bs.map (fun a => .pointer (some a)) ∧ All2 (AR ρ) as bs
  | [], as, ws, h, hw => by
    simp only [ptrs, Option.some.injEq] at h; subst h
    cases hw
    exact ⟨[], rfl, .nil⟩
  | v :: vs, as, ws, h, hw => by
    cases hw with
    | cons h1 h2 =>
      unfold ptrs at h
      split at h
      · rename_i heq; cases heq
      · rename_i ad r heq
        injection heq with e1 e2
        subst e1; subst e2
        simp only [Option.map_eq_some_iff] at h
        obtain ⟨as', h3, rfl⟩ := h
        obtain ⟨bs, rfl, h4⟩ := ptrs_sound h3 h2
        have hf := h1.flat_ptr
        cases hf with
        | ptr hr => exact ⟨_ :: bs, rfl, .cons (.mk hr) h4⟩
      · cases h

theorem pure_mkfn (fn : Fn) (first cs : Array Operand) : PureOk P ρ env a (.makeFunc fn first cs) := by
  intro p v hc he hE w dst ty pos af g
  simp only [mkPure] at hc
  split at hc
  · rename_i f hf
    simp only [Option.map_eq_some_iff] at hc
    obtain ⟨ys, hy, rfl⟩ := hc
    simp only [peval] at he
    split at he
    · rename_i vs hv
      simp only [Option.map_eq_some_iff] at he
      obtain ⟨as, has, rfl⟩ := he
      have hfirst : first = #[] := Array.toList_eq_nil_iff.1 hf
      subst hfirst
      obtain ⟨bs, hb, hall⟩ := ptrs_sound has (opds_sound hy hv hE)
      refine ⟨.func (.func f) #[] ⟨bs.map fun a => .pointer (some a)⟩, ok_v ?_, .of_flat (.fn f hall)⟩
      have : cs.map a.eval = ⟨bs.map fun a => .pointer (some a)⟩ := by
        apply Array.ext'
        rw [Array.toList_map]
        exact hb
      rw [this]
      simp only [Instr.makeFunc, Array.map_empty, Sem.run_pure]
    · cases he
  · cases hc

theorem field_places (fs : Array Field) {pl : List (Nat × Nat)} (h : fieldPlaces P fs.toList = some pl) :
    (fs.mapM (m := Sem) fun f => do pure (f.offset, ← sizeOf f.type)).run P w = .ok ⟨pl⟩ w := by
  have key : ∀ (l : List Field) (pl : List (Nat × Nat)), fieldPlaces P l = some pl → (l.mapM (m := Sem) fun f => do pure (f.offset, ← sizeOf f.type)).run P w = .ok pl w := by
    intro l
    induction l with
    | nil => intro pl h; simp only [fieldPlaces, Option.some.injEq] at h; subst h; rfl
    | cons f l ih =>
      intro pl h
      simp only [fieldPlaces] at h
      split at h
      · rename_i n s h1 h2
        injection h with h; subst h
        simp only [List.mapM_cons, Sem.run_bind, run_size h1, Result.andThen_ok, Sem.run_pure, ih s h2]
      · cases h
  have := key fs.toList pl h
  rw [← Array.toArray_toList (xs := fs), List.mapM_toArray]
  simp only [Sem.run_map, this, Result.andThen_ok]

theorem pure_build (t : TypeId) (ps : Array (Nat × Operand)) : PureOk P ρ env a (.build t ps) := by
  intro p v hc he hE w dst ty pos af g
  simp only [mkPure] at hc
  split at hc
  · rename_i z hz
    obtain ⟨zv, z1, z2, z3, z4⟩ := run_zero (ρ := ρ) (w := w) hz
    have hmap : (ps.map fun (i, x) => (i, a.eval x)).toList = ps.toList.map fun p => (p.1, a.eval p.2) := by rw [Array.toList_map]
    split at hc
    · rename_i fs hu
      split at hc
      · rename_i pl hpl
        simp only [Option.map_eq_some_iff] at hc
        obtain ⟨qs, hq, rfl⟩ := hc
        simp only [peval, Option.map_eq_some_iff] at he
        obtain ⟨r, hr, rfl⟩ := he
        obtain ⟨r', k1, k2⟩ := fill_sound (cs' := z) hq hr hE z3
        refine ⟨.agg ⟨r'⟩, ok_v ?_, .x (.agg k2)⟩
        have hz' : zv.cells = ⟨z⟩ := Array.ext' z2
        simp only [Instr.build, Sem.run_bind, z1, Result.andThen_ok, run_under hu, field_places fs hpl, hz', hmap]
        have : (fun x => (⟨pl⟩ : Array (Nat × Nat))[x]?) = (pl[·]?) := funext fun x => arr_get pl x
        rw [this, k1]
        rfl
      · cases hc
    · rename_i n e hu
      split at hc
      · rename_i m hm
        simp only [Option.map_eq_some_iff] at hc
        obtain ⟨qs, hq, rfl⟩ := hc
        simp only [peval, Option.map_eq_some_iff] at he
        obtain ⟨r, hr, rfl⟩ := he
        obtain ⟨r', k1, k2⟩ := fill_sound (cs' := z) hq hr hE z3
        refine ⟨.agg ⟨r'⟩, ok_v ?_, .x (.agg k2)⟩
        have hz' : zv.cells = ⟨z⟩ := Array.ext' z2
        simp only [Instr.build, Sem.run_bind, z1, Result.andThen_ok, run_under hu, run_size hm, hz', hmap, k1, Sem.run_pure]
      · cases hc
    · cases hc
  · cases hc


theorem maxes_sound : ∀ (l : List Value) (k : IntKind) (x : Int) (v : Value) (l' : List Value), maxes (.int k x) l = some v → All2 (VR ρ) l l' →
    (l'.foldlM Builtin.max2 (.int k x)).run P w = .ok v w ∧ VR ρ v v
  | [], k, x, v, l', h, hl => by
    simp only [maxes, Option.some.injEq] at h; subst h
    cases hl
    exact ⟨rfl, .of_flat (.int _ _)⟩
  | y :: l, k, x, v, l', h, hl => by
    cases hl with
    | cons h1 h2 =>
      unfold maxes at h
      split at h
      · rename_i heq; cases heq
      · rename_i k1 x1 j y1 r e1 e2
        injection e1 with e1 e1'; subst e1; subst e1'
        injection e2 with e2 e2'; subst e2; subst e2'
        simp only [Option.ite_none_right_eq_some] at h
        obtain ⟨rfl, h⟩ := h
        cases h1.int_inv
        have ex : (bif iltF x y1 then y1 else x) = (if y1 > x then y1 else x) := by rw [iltF_eq]; by_cases hlt : x < y1 <;> simp [hlt]
        rw [ex] at h
        have := maxes_sound _ _ _ v _ h h2
        simp only [List.foldlM_cons, Builtin.max2, Sem.run_bind, Sem.run_pure, Result.andThen_ok]
        exact this
      · cases h

theorem mines_sound : ∀ (l : List Value) (k : IntKind) (x : Int) (v : Value) (l' : List Value), mines (.int k x) l = some v → All2 (VR ρ) l l' →
    (l'.foldlM Builtin.min2 (.int k x)).run P w = .ok v w ∧ VR ρ v v
  | [], k, x, v, l', h, hl => by
    simp only [mines, Option.some.injEq] at h; subst h
    cases hl
    exact ⟨rfl, .of_flat (.int _ _)⟩
  | y :: l, k, x, v, l', h, hl => by
    cases hl with
    | cons h1 h2 =>
      unfold mines at h
      split at h
      · rename_i heq; cases heq
      · rename_i k1 x1 j y1 r e1 e2
        injection e1 with e1 e1'; subst e1; subst e1'
        injection e2 with e2 e2'; subst e2; subst e2'
        simp only [Option.ite_none_right_eq_some] at h
        obtain ⟨rfl, h⟩ := h
        cases h1.int_inv
        have ex : (bif iltF y1 x then y1 else x) = (if y1 < x then y1 else x) := by rw [iltF_eq]; by_cases hlt : y1 < x <;> simp [hlt]
        rw [ex] at h
        have := mines_sound _ _ _ v _ h h2
        simp only [List.foldlM_cons, Builtin.min2, Sem.run_bind, Sem.run_pure, Result.andThen_ok]
        exact this
      · cases h

/-- A builtin that looks at its operands alone. -/
theorem ok_builtin {b : Builtin} {as : Array Operand} {ts : Array TypeId} {v : Value} {dst : Option Tmp} {ty : TypeId} {pos : String} {af : Array Edge} {g : Option (Nat × Bool)}
    (h : ∀ cs, (Go.builtin b ts ty cs (as.map a.eval)).run P w = .ok (.value v) w) :
    (execOp a.eval ⟨dst, .call ⟨.builtin b, as, ts⟩, ty, pos, af, g⟩).run P w = .ok (.value v) w := by
  simp only [execOp, resolve, Sem.run_bind, Sem.run_pure, Result.andThen_ok, invoke, h]

theorem map_toList {as : Array Operand} {vs : List Value} (h : as.toList.map a.eval = vs) : as.map a.eval = ⟨vs⟩ := by
  apply Array.ext'; rw [Array.toList_map]; exact h

theorem mkOpds_one {as : List Operand} {x : Opd} (h : mkOpds as = some [x]) : ∃ y, as = [y] ∧ mkOpd y = some x := by
  cases as with
  | nil => simp [mkOpds] at h
  | cons y l =>
    simp only [mkOpds] at h
    split at h
    · rename_i z s h1 h2
      simp only [Option.some.injEq, List.cons.injEq] at h
      obtain ⟨rfl, rfl⟩ := h
      cases l with
      | nil => exact ⟨y, rfl, h1⟩
      | cons q l =>
        simp only [mkOpds] at h2
        split at h2 <;> simp at h2
    · cases h

theorem pure_builtin (b : Builtin) (as : Array Operand) (ts : Array TypeId) : PureOk P ρ env a (.call ⟨.builtin b, as, ts⟩) := by
  intro p v hc he hE w dst ty pos af g
  simp only [mkPure] at hc
  split at hc
  · rename_i xs hxs
    unfold mkBuiltin at hc
    split at hc
    · injection hc with hc; subst hc
      simp only [peval] at he
      split at he
      · rename_i k x r hv
        have hall := opds_sound hxs hv hE
        have hm := map_toList (a := a) (as := as) rfl
        generalize as.toList.map a.eval = ws at hall hm
        cases hall with
        | cons h1 h2 =>
          cases h1.int_inv
          obtain ⟨k1, k2⟩ := maxes_sound (P := P) (w := w) _ _ _ v _ he h2
          refine ⟨v, ok_builtin fun cs => ?_, k2⟩
          rw [hm]
          simp only [Go.builtin, Builtin.max_, Sem.run_bind, k1, Result.andThen_ok, Sem.run_pure]
      · cases he
    · injection hc with hc; subst hc
      simp only [peval] at he
      split at he
      · rename_i k x r hv
        have hall := opds_sound hxs hv hE
        have hm := map_toList (a := a) (as := as) rfl
        generalize as.toList.map a.eval = ws at hall hm
        cases hall with
        | cons h1 h2 =>
          cases h1.int_inv
          obtain ⟨k1, k2⟩ := mines_sound (P := P) (w := w) _ _ _ v _ he h2
          refine ⟨v, ok_builtin fun cs => ?_, k2⟩
          rw [hm]
          simp only [Go.builtin, Builtin.min_, Sem.run_bind, k1, Result.andThen_ok, Sem.run_pure]
      · cases he
    · split at hc
      · rename_i x
        obtain ⟨y, hy, hx⟩ := mkOpds_one hxs
        have hm : as.map a.eval = ⟨[a.eval y]⟩ := map_toList (by rw [hy]; rfl)
        split at hc
        · rename_i t ht
          split at hc
          · rename_i hu
            injection hc with hc; subst hc
            simp only [peval] at he
            split at he
            · rename_i s hv
              injection he with he; subst he
              refine ⟨_, ok_builtin (v := .int .i64 s.size) fun cs => ?_, .of_flat (.int _ _)⟩
              rw [hm, (opd_sound hx hv hE).str_inv]
              simp [Go.builtin, Builtin.len_, ht, run_under hu, goInt]
            · cases he
          · rename_i e hu
            injection hc with hc; subst hc
            simp only [peval] at he
            split at he
            · rename_i sl n c hv
              injection he with he; subst he
              obtain ⟨y', d, hq⟩ := (opd_sound hx hv hE).flat_slice.slice_shape
              refine ⟨_, ok_builtin (v := .int .i64 n) fun cs => ?_, .of_flat (.int _ _)⟩
              rw [hm, hq]
              simp [Go.builtin, Builtin.len_, ht, run_under hu, goInt]
            · cases he
          · rename_i n e hu
            injection hc with hc; subst hc
            simp only [peval, Option.some.injEq] at he; subst he
            refine ⟨_, ok_builtin (v := .int .i64 n) fun cs => ?_, .of_flat (.int _ _)⟩
            rw [hm]
            simp [Go.builtin, Builtin.len_, ht, run_under hu, goInt]
          · cases hc
        · cases hc
      · cases hc
    · split at hc
      · rename_i x
        obtain ⟨y, hy, hx⟩ := mkOpds_one hxs
        have hm : as.map a.eval = ⟨[a.eval y]⟩ := map_toList (by rw [hy]; rfl)
        split at hc
        · rename_i t ht
          split at hc
          · rename_i e hu
            injection hc with hc; subst hc
            simp only [peval] at he
            split at he
            · rename_i l c hv
              injection he with he; subst he
              have hf := (opd_sound hx hv hE).flat_slice
              generalize a.eval y = q at hf hm
              cases hf
              refine ⟨_, ok_builtin (v := .int .i64 c) fun cs => ?_, .of_flat (.int _ _)⟩
              rw [hm]
              simp [Go.builtin, Builtin.cap_, ht, run_under hu, goInt]
            · rename_i i o l c hv
              injection he with he; subst he
              have hf := (opd_sound hx hv hE).flat_slice
              generalize a.eval y = q at hf hm
              cases hf
              refine ⟨_, ok_builtin (v := .int .i64 c) fun cs => ?_, .of_flat (.int _ _)⟩
              rw [hm]
              simp [Go.builtin, Builtin.cap_, ht, run_under hu, goInt]
            · cases he
          · cases hc
        · cases hc
      · cases hc
    · cases hc
  · cases hc


/-- EVERY OPERATION THAT ONLY LOOKS AT TEMPORARIES. -/
theorem pure_sound (op : Op) : PureOk P ρ env a op := by
  cases op with
  | move x => exact pure_move x
  | assign x => exact pure_assign x
  | pick c x y => exact pure_pick c x y
  | binOp op t x y t' => exact pure_bin op t x y t'
  | unOp op t x => exact pure_un op t x
  | convert s d x => exact pure_conv s d x
  | slice t x lo hi mx => exact pure_slice t x lo hi mx
  | nilCheck x => exact pure_nilck x
  | fieldAddr s x f => exact pure_fadd s x f
  | indexAddr t x i => exact pure_idx t x i
  | index t x i => exact pure_index t x i
  | field t x f => exact pure_field t x f
  | extract x k => exact pure_extract x k
  | makeFunc fn first cs => exact pure_mkfn fn first cs
  | build t ps => exact pure_build t ps
  | call c =>
    obtain ⟨callee, as, ts⟩ := c
    cases callee with
    | builtin b => exact pure_builtin b as ts
    | value f => intro p v hc; simp [mkPure] at hc
    | invoke r m => intro p v hc; simp [mkPure] at hc
  | _ => intro p v hc; simp [mkPure] at hc

end Go.AI
