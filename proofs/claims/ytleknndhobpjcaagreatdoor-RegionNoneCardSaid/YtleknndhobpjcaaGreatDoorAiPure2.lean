/- The evaluator's operations that only look at temporaries, all of them. No program is named here. -/
import Derived.Test.YtleknndhobpjcaaGreatDoorAiPure
namespace Go.AI
variable {P : Program} {ρ : Ren} {env : List (Nat × Value)} {a : Act} {w : World}

theorem ok_v {s : Sem Value} {v : Value} (h : s.run P w = .ok v w) : (do pure (Next.value (← s)) : Sem Next).run P w = .ok (.value v) w := by
  simp [h]

theorem natOf_inv {v : Value} {n : Nat} (h : natOf v = some n) : ∃ k, v = .int k (Int.ofNat n) := by
  unfold natOf at h
  split at h
  · injection h with h; subst h; exact ⟨_, rfl⟩
  · cases h

/-- A bound of a slice. -/
theorem sliceBound_ok {k : IntKind} {n y : Nat} (c : BoundsCode) (h : n ≤ y) : (Instr.sliceBound (.int k (Int.ofNat n)) y c).run P w = .ok n w := by
  have : (0 : Int) ≤ Int.ofNat n ∧ Int.ofNat n ≤ (y : Int) := ⟨by simp, by simp; exact_mod_cast h⟩
  simp only [Instr.sliceBound, asIntOf, Sem.run_bind, Sem.run_pure, Result.andThen_ok]
  rw [if_pos this]
  rfl

/-- The same bounds, of the values that stand for these. -/
inductive OptR (ρ : Ren) : Option Value → Option Value → Prop
  | none : OptR ρ none none
  | some {v v'} (h : VR ρ v v') : OptR ρ (some v) (some v')

theorem bounds_sound {s : Bool} {len cap len' cap' : Nat} {lo hi mx lo' hi' mx' : Option Value} {l h m : Nat} (hb : bounds len cap lo hi mx = some (l, h, m)) (hl : len' = len) (hc : cap ≤ cap')
    (rl : OptR ρ lo lo') (rh : OptR ρ hi hi') (rm : OptR ρ mx mx') :
    (Instr.sliceBounds s len' cap' lo' hi' mx').run P w = .ok (l, h, if mx = none then cap' else m) w ∧ l ≤ h ∧ h ≤ m ∧ m ≤ cap ∧ (mx = none → m = cap) := by
  subst hl
  unfold bounds at hb
  split at hb
  · cases hb
  · rename_i m0 hm0
    split at hb
    · cases hb
    · rename_i h0 hh0
      split at hb
      · cases hb
      · rename_i l0 hl0
        cases hcnd : (Nat.ble m0 cap && (Nat.ble h0 m0 && Nat.ble l0 h0) && (hi.isSome || mx.isNone)) with
        | false => rw [hcnd] at hb; cases hb
        | true =>
          rw [hcnd, cond_true] at hb
          simp only [Option.some.injEq, Prod.mk.injEq] at hb
          obtain ⟨rfl, rfl, rfl⟩ := hb
          simp only [Bool.and_eq_true, Nat.ble_eq] at hcnd
          obtain ⟨⟨h1, h2, h3⟩, h4⟩ := hcnd
          refine ⟨?_, h3, h2, h1, ?_⟩
          · -- the model's own bounds
            have em : mx = none → m0 = cap := by
              intro e; subst e; simp only [natOpt, Option.some.injEq] at hm0; exact hm0.symm
            unfold Instr.sliceBounds
            cases rm with
            | none =>
              have em := em rfl
              simp only [Sem.run_bind, Sem.run_pure, Result.andThen_ok, if_true]
              cases rh with
              | none =>
                simp only [natOpt, Option.some.injEq] at hh0; subst hh0
                simp only [Sem.run_pure, Result.andThen_ok]
                cases rl with
                | none => simp only [natOpt, Option.some.injEq] at hl0; subst hl0; simp only [Sem.run_bind, Sem.run_pure, Result.andThen_ok]
                | some r =>
                  simp only [natOpt] at hl0
                  obtain ⟨k, rfl⟩ := natOf_inv hl0
                  cases r.int_inv
                  simp only [Sem.run_bind, sliceBound_ok _ h3, Result.andThen_ok, Sem.run_pure]
              | some r =>
                simp only [natOpt] at hh0
                obtain ⟨k, rfl⟩ := natOf_inv hh0
                cases r.int_inv
                simp only [Sem.run_bind, sliceBound_ok _ (show h0 ≤ cap' by omega), Result.andThen_ok]
                cases rl with
                | none => simp only [natOpt, Option.some.injEq] at hl0; subst hl0; simp only [Sem.run_bind, Sem.run_pure, Result.andThen_ok]
                | some r =>
                  simp only [natOpt] at hl0
                  obtain ⟨k, rfl⟩ := natOf_inv hl0
                  cases r.int_inv
                  simp only [Sem.run_bind, sliceBound_ok _ h3, Result.andThen_ok, Sem.run_pure]
            | some r =>
              simp only [natOpt] at hm0
              obtain ⟨k, rfl⟩ := natOf_inv hm0
              cases r.int_inv
              simp only [Sem.run_bind, sliceBound_ok _ (show m0 ≤ cap' by omega), Result.andThen_ok, reduceCtorEq, if_false]
              cases rh with
              | none => simp at h4
              | some r =>
                simp only [natOpt] at hh0
                obtain ⟨k, rfl⟩ := natOf_inv hh0
                cases r.int_inv
                simp only [Sem.run_bind, sliceBound_ok _ h2, Result.andThen_ok]
                cases rl with
                | none => simp only [natOpt, Option.some.injEq] at hl0; subst hl0; simp only [Sem.run_bind, Sem.run_pure, Result.andThen_ok]
                | some r =>
                  simp only [natOpt] at hl0
                  obtain ⟨k, rfl⟩ := natOf_inv hl0
                  cases r.int_inv
                  simp only [Sem.run_bind, sliceBound_ok _ h3, Result.andThen_ok, Sem.run_pure]
          · intro e; subst e; simp only [natOpt, Option.some.injEq] at hm0; exact hm0.symm

theorem optR_of {x : Option Operand} {y : Option Opd} {v : Option Value} (hc : mkOpt x = some y) (he : evopt env y = some v) (hE : ER ρ env a) : OptR ρ v (x.map a.eval) := by
  rcases opt_sound hc he hE with ⟨rfl, rfl⟩ | ⟨x', v', rfl, rfl, h⟩
  · exact .none
  · exact .some h

theorem add_addr (i o n : Nat) : Addr.add ⟨i, o, none⟩ n = ⟨i, o + n, none⟩ := by
  unfold Addr.add
  split
  · rename_i h; subst h; rfl
  · rfl

/-- A slice of a slice, or of an array. -/
theorem sliceL_sound {e : Nat} {x x' : Option Addr} {s : Bool} {len cap cap' : Nat} {lo hi mx lo' hi' mx' : Option Value} {v : Value}
    (h : sliceL e x len cap lo hi mx = some v) (hx : FR ρ (.slice x len cap) (.slice x' len cap'))
    (rl : OptR ρ lo lo') (rh : OptR ρ hi hi') (rm : OptR ρ mx mx') :
    ∃ l h m v', (Instr.sliceBounds s len cap' lo' hi' mx').run P w = .ok (l, h, m) w ∧ v' = .slice (if m = l then x' else x'.map (·.add (l * e))) (h - l) (m - l) ∧ FR ρ v v' := by
  unfold sliceL at h
  split at h
  · cases h
  · rename_i l hh m hb
    have hcap : cap ≤ cap' := by cases hx <;> omega
    obtain ⟨h1, h2, h3, h4, h5⟩ := bounds_sound (P := P) (w := w) (s := s) hb rfl hcap rl rh rm
    refine ⟨_, _, _, _, h1, rfl, ?_⟩
    cases hx with
    | nils l0 c0 =>
      simp only [Option.some.injEq] at h; subst h
      have : (if mx = none then cap else m) = m := by (split; exact (h5 (by assumption)).symm; rfl)
      rw [this]
      split <;> exact .nils _ _
    | slc hr =>
      rename_i i b s0 o
      simp only at h
      cases mx with
      | none =>
        have e5 := h5 rfl
        simp only [if_true] at *
        cases hlt : Nat.blt l m with
        | true =>
          simp only [hlt, cond_true, Option.some.injEq] at h; subst h
          rw [blt_iff, decide_eq_true_eq] at hlt
          have hne : ¬ (cap + s0 = l) := by omega
          simp only [hne, if_false, Option.map_some, add_addr]
          have : cap + s0 - l = (m - l) + s0 := by omega
          rw [this]
          exact .slc hr
        | false =>
          simp only [hlt, cond_false, Option.some.injEq] at h; subst h
          rw [blt_iff, decide_eq_false_iff_not] at hlt
          have e0 : hh - l = 0 := by omega
          rw [e0]
          split
          · exact .slz hr
          · simp only [Option.map_some, add_addr]; exact .slz hr
      | some q =>
        simp only [reduceCtorEq, if_false] at *
        cases hlt : Nat.beq m l with
        | true =>
          simp only [hlt, cond_true, Option.some.injEq] at h; subst h
          rw [Nat.beq_eq] at hlt; subst hlt
          simp only [if_true, Nat.sub_self]
          have e0 : hh - m = 0 := by omega
          rw [e0]
          exact .slx hr
        | false =>
          simp only [hlt, cond_false, Option.some.injEq] at h; subst h
          have hne : ¬ (m = l) := fun e => by rw [e, Nat.beq_refl] at hlt; cases hlt
          simp only [hne, if_false, Option.map_some, add_addr]
          exact .slx hr
    | slx hr =>
      have em : (if mx = none then cap else m) = m := by (split; exact (h5 (by assumption)).symm; rfl)
      rw [em]
      simp only at h
      cases hlt : Nat.beq m l with
      | true =>
        simp only [hlt, cond_true, Option.some.injEq] at h; subst h
        rw [Nat.beq_eq] at hlt; subst hlt
        simp only [if_true, Nat.sub_self]
        have e0 : hh - m = 0 := by omega
        rw [e0]
        exact .slx hr
      | false =>
        simp only [hlt, cond_false, Option.some.injEq] at h; subst h
        have hne : ¬ (m = l) := fun e => by rw [e, Nat.beq_refl] at hlt; cases hlt
        simp only [hne, if_false, Option.map_some, add_addr]
        exact .slx hr
    | slz hr =>
      simp only [Option.some.injEq] at h; subst h
      have e1 : hh - l = 0 := by omega
      rw [e1]
      generalize (if mx = none then cap' else m) = q
      by_cases hq : q = l
      · rw [if_pos hq]; exact .slz hr
      · rw [if_neg hq]; simp only [Option.map_some, add_addr]; exact .slz hr


theorem fieldPlaces_get {P : Program} : ∀ {fs : List Field} {pl : List (Nat × Nat)}, fieldPlaces P fs = some pl → (fs.map fun f => (f.offset, (sizeT P f.type).getD 0)) = pl ∧ ∀ f ∈ fs, ∃ n, sizeT P f.type = some n
  | [], pl, h => by simp only [fieldPlaces, Option.some.injEq] at h; subst h; exact ⟨rfl, by simp⟩
  | f :: fs, pl, h => by
    simp only [fieldPlaces] at h
    split at h
    · rename_i n s h1 h2
      injection h with h; subst h
      obtain ⟨e, g⟩ := fieldPlaces_get h2
      refine ⟨by simp [h1, e], fun x hx => ?_⟩
      rcases List.mem_cons.1 hx with rfl | hx
      · exact ⟨n, h1⟩
      · exact g x hx
    · cases h

theorem over_length : ∀ (cs vs : List Value), vs.length ≤ cs.length → (over cs vs).length = cs.length
  | cs, [], _ => by cases cs <;> simp [over]
  | [], v :: vs, h => by simp at h
  | c :: cs, v :: vs, h => by simp only [over, List.length_cons]; rw [over_length cs vs (by simpa using h)]
theorem over_eq : ∀ (cs vs : List Value), vs.length ≤ cs.length → over cs vs = vs ++ cs.drop vs.length
  | cs, [], _ => by cases cs <;> simp [over]
  | [], v :: vs, h => by simp at h
  | c :: cs, v :: vs, h => by simp only [over, List.cons_append, List.length_cons, List.drop_succ_cons]; rw [over_eq cs vs (by simpa using h)]
theorem splice_eq : ∀ (cs : List Value) (n : Nat) (vs : List Value), n + vs.length ≤ cs.length → splice cs n vs = cs.take n ++ vs ++ cs.drop (n + vs.length)
  | cs, 0, vs, h => by cases cs <;> simp only [splice] <;> rw [over_eq _ _ (by omega)] <;> simp
  | [], n + 1, vs, h => by simp at h
  | c :: cs, n + 1, vs, h => by
    simp only [splice, List.take_succ_cons, List.cons_append]
    rw [splice_eq cs n vs (by simp at h; omega), show n + 1 + vs.length = (n + vs.length) + 1 by omega]
    rfl
theorem splice_length {cs : List Value} {n : Nat} {vs : List Value} (h : n + vs.length ≤ cs.length) : (splice cs n vs).length = cs.length := by
  rw [splice_eq cs n vs h]; simp; omega
theorem splice_all2 {R : Value → Value → Prop} {cs cs' vs vs' : List Value} {n : Nat} (h : n + vs.length ≤ cs.length) (hc : All2 R cs cs') (hv : All2 R vs vs') : All2 R (splice cs n vs) (splice cs' n vs') := by
  have e1 := hc.length
  have e2 := hv.length
  rw [splice_eq cs n vs h, splice_eq cs' n vs' (by omega), ← e2]
  exact ((hc.take n).append hv).append (hc.drop _)

/-- The model's own laying of cells. -/
theorem foldl_set (vs : List Value) : ∀ (cs : Array Value) (off k : Nat), off + k + vs.length ≤ cs.size →
    ((vs.zipIdx k).foldl (fun cs (x : Value × Nat) => cs.setIfInBounds (off + x.2) x.1) cs).toList = splice cs.toList (off + k) vs := by
  induction vs with
  | nil => intro cs off k h; simp only [List.zipIdx_nil, List.foldl_nil]; rw [splice_eq _ _ _ (by simpa using h)]; simp
  | cons v vs ih =>
    intro cs off k h
    simp only [List.length_cons] at h
    simp only [List.zipIdx_cons, List.foldl_cons]
    rw [ih (cs.setIfInBounds (off + k) v) off (k + 1) (by simp; omega)]
    rw [splice_eq _ _ _ (by simp; omega), splice_eq _ _ _ (by simp; omega)]
    simp only [Array.toList_setIfInBounds, List.length_cons]
    have hlt : off + k < cs.toList.length := by simp; omega
    rw [show off + (k + 1) = (off + k) + 1 by omega, List.take_succ_eq_append_getElem (by simpa using hlt), List.getElem_set_self, List.take_set_of_le (Nat.le_refl _)]
    rw [List.drop_set_of_lt (by omega)]
    simp only [List.append_assoc, List.cons_append, List.nil_append]
    rw [show off + k + 1 + vs.length = off + k + (vs.length + 1) by omega]

theorem cellsV_sound {v v' : Value} {cs : List Value} (h : cellsV v = some cs) (hv : VR ρ v v') : All2 (FR ρ) cs v'.cells.toList := by
  cases hv with
  | x hv =>
    have := hv.cells
    cases hv with
    | flat hf => cases hf <;> (simp only [cellsV, Option.some.injEq] at h; subst h; exact this)
    | agg hf => simp only [cellsV, Option.some.injEq] at h; subst h; exact hf
  | tup hv => simp [cellsV] at h

theorem fill_sound {place : Nat → Option (Nat × Nat)} : ∀ {ps : List (Nat × Operand)} {qs : List (Nat × Nat × Opd)} {cs cs' : List Value} {r : List Value}, mkParts place ps = some qs → fillp env cs qs = some r → ER ρ env a → All2 (FR ρ) cs cs' →
    ∃ r', Instr.fill place ⟨cs'⟩ (ps.map fun p => (p.1, a.eval p.2)) = some ⟨r'⟩ ∧ All2 (FR ρ) r r'
  | [], qs, cs, cs', r, hm, hf, _, hc => by
    simp only [mkParts, Option.some.injEq] at hm; subst hm
    simp only [fillp, Option.some.injEq] at hf; subst hf
    exact ⟨cs', rfl, hc⟩
  | (i, x) :: ps, qs, cs, cs', r, hm, hf, hE, hc => by
    simp only [mkParts] at hm
    split at hm
    · rename_i off n y s h1 h2 h3
      injection hm with hm; subst hm
      simp only [fillp] at hf
      split at hf
      · rename_i v hv
        split at hf
        · rename_i vs hvs
          cases hcnd : (Nat.beq vs.length n && Nat.ble (off + n) cs.length) with
          | false => rw [hcnd] at hf; cases hf
          | true =>
            rw [hcnd, cond_true] at hf
            simp only [Bool.and_eq_true, Nat.beq_eq, Nat.ble_eq] at hcnd
            obtain ⟨hn, hle⟩ := hcnd
            have hcs := cellsV_sound hvs (opd_sound h2 hv hE)
            have hl := hcs.length
            have hl2 := hc.length
            have hsp := splice_all2 (n := off) (by omega) hc hcs
            obtain ⟨r', hr, hr2⟩ := fill_sound h3 hf hE hsp
            refine ⟨r', ?_, hr2⟩
            have hsz : (a.eval x).cells.size = n := by rw [← Array.length_toList]; omega
            have hcnd' : (decide ((a.eval x).cells.size ≠ n) || decide (off + (a.eval x).cells.size > (⟨cs'⟩ : Array Value).size)) = false := by
              have : ¬ (off + (a.eval x).cells.size > cs'.length) := by omega
              simp [hsz]; omega
            have hfold : (a.eval x).cells.zipIdx.foldl (fun cs (c, j) => cs.setIfInBounds (off + j) c) (⟨cs'⟩ : Array Value) = ⟨splice cs' off (a.eval x).cells.toList⟩ := by
              apply Array.ext'
              have := foldl_set (a.eval x).cells.toList ⟨cs'⟩ off 0 (by simp; omega)
              rw [← Array.foldl_toList, Array.toList_zipIdx]
              exact this
            simp only [List.map_cons, Instr.fill, h1, hfold, hr]
            simp only [hcnd', Bool.false_eq_true, if_false] 
        · cases hf
      · cases hf
    · cases hm

end Go.AI
