/- The evaluator's main theorem: what it answers of a call, the model answers, whatever order it draws. No program is named here. -/
import Derived.Test.YtnpmgkccfknlkaaGreatDoorAiCode
namespace Go.AI
variable {E : Ext} {P : Program} {W0 : World} {N : Nat} {esc : Nat → Nat → Bool}

theorem args_er {ρ : Ren} : ∀ {vs vs' : List Value} {n : Nat} {s : Nat} {v : Value}, All2 (VR ρ) vs vs' → look s (argsE n vs) = some v → n ≤ s ∧ ∃ v', vs'[s - n]? = some v' ∧ VR ρ v v'
  | [], _, n, s, v, h, hl => by simp [argsE, look] at hl
  | x :: vs, _, n, s, v, .cons (b := y) h t, hl => by
    simp only [argsE] at hl
    rw [look_cons] at hl
    split at hl
    · rename_i e
      simp only at e
      subst e
      simp only [Option.some.injEq] at hl; subst hl
      exact ⟨Nat.le_refl _, y, by simp, h⟩
    · rename_i hne
      obtain ⟨h1, v', h2, h3⟩ := args_er t hl
      refine ⟨by omega, v', ?_, h3⟩
      rw [show s - n = (s - Nat.succ n) + 1 by omega]
      simpa using h2

theorem results_sound {ρ : Ren} {φ : Foot} {env : List (Nat × Value)} {m : Mem E.X} {a : Act} {w : World} (hs : St E W0 ρ φ env m N a w) : ∀ {rs : List ResultVar} {is : List IRes} {vs : List Value}, mkRes P rs = some is → resV env m is = some vs →
    ∃ vs', (rs.mapM (m := Sem) fun (x : ResultVar) => match x with | .tmp t => pure (a.tmps.getD t undef) | .cell c t => do loadVar t (← asAddr (a.tmps.getD c undef))).run P w = .ok vs' w ∧ All2 (VR ρ) vs vs'
  | [], is, vs, h, hv => by
    simp only [mkRes, Option.some.injEq] at h; subst h
    simp only [resV, Option.some.injEq] at hv; subst hv
    exact ⟨[], rfl, .nil⟩
  | .tmp t :: rs, is, vs, h, hv => by
    simp only [mkRes, Option.map_eq_some_iff] at h
    obtain ⟨is', h1, rfl⟩ := h
    simp only [resV] at hv
    split at hv
    · rename_i v s h2 h3
      injection hv with hv; subst hv
      obtain ⟨vs', k1, k2⟩ := results_sound hs h1 h3
      refine ⟨a.tmps.getD t undef :: vs', ?_, .cons (hs.er t v h2) k2⟩
      simp only [List.mapM_cons, Sem.run_bind, Sem.run_pure, Result.andThen_ok, k1]
    · cases hv
  | .cell c t :: rs, is, vs, h, hv => by
    simp only [mkRes] at h
    split at h
    · rename_i g n is' hg hn h1
      split at h
      · cases h
      · rename_i hz
        injection h with h; subst h
        simp only [resV] at hv
        split at hv
        · rename_i ad s h2 h3
          split at hv
          · rename_i cs hcs
            split at hv
            · rename_i v hov
              injection hv with hv; subst hv
              obtain ⟨vs', k1, k2⟩ := results_sound hs h1 h3
              have hp := hs.er c _ h2
              have hn0 : (bif g then n else 1) ≠ 0 := by
                cases g with
                | true =>
                  simp only [Bool.true_and] at hz
                  intro e
                  simp only [cond_true] at e
                  rw [e] at hz; simp at hz
                | false => simp
              generalize hq : a.tmps.getD c undef = q at hp
              cases hp.flat_ptr with
              | ptr hrb =>
                obtain ⟨r', l1, l2, l3⟩ := load_sound (P := P) hcs hs.good hn0 (.ptr hrb)
                unfold oneOf at hov
                cases g with
                | true =>
                  simp only [cond_true, Option.some.injEq] at hov l1; subst hov
                  refine ⟨.agg ⟨r'⟩ :: vs', ?_, .cons (.x (.agg l2)) k2⟩
                  have hh : ((fun (x : ResultVar) => match x with | .tmp t => (pure (a.tmps.getD t undef) : Sem Value) | .cell c t => do loadVar t (← asAddr (a.tmps.getD c undef))) (.cell c t)).run P w = .ok (.agg ⟨r'⟩) w := by
                    simp only [hq, asAddr, loadVar, Sem.run_bind, Sem.run_pure, Result.andThen_ok, run_agg hg, if_true, run_size hn, l1]
                  rw [List.mapM_cons, Sem.run_bind, hh]
                  simp only [Result.andThen_ok, Sem.run_bind, k1, Sem.run_pure]
                | false =>
                  simp only [cond_false] at hov
                  split at hov
                  · rename_i x
                    injection hov with hov; subst hov
                    obtain ⟨yv, l4, l5⟩ := l3 x rfl rfl
                    refine ⟨yv :: vs', ?_, .cons (.of_flat l5) k2⟩
                    have hh : ((fun (x : ResultVar) => match x with | .tmp t => (pure (a.tmps.getD t undef) : Sem Value) | .cell c t => do loadVar t (← asAddr (a.tmps.getD c undef))) (.cell c t)).run P w = .ok yv w := by
                      simp only [hq, asAddr, loadVar, Sem.run_bind, Sem.run_pure, Result.andThen_ok, run_agg hg, Bool.false_eq_true, if_false, l4]
                    rw [List.mapM_cons, Sem.run_bind, hh]
                    simp only [Result.andThen_ok, Sem.run_bind, k1, Sem.run_pure]
                  · cases hov
            · cases hv
          · cases hv
        · cases hv
    · cases h

theorem pack_sound {ρ : Ren} {vs vs' : List Value} {v : Value} (h : packV vs = some v) (hv : All2 (VR ρ) vs vs') : VR ρ v (if h : (⟨vs'⟩ : Array Value).size = 1 then (⟨vs'⟩ : Array Value)[0] else .tuple ⟨vs'⟩) := by
  unfold packV at h
  split at h
  · rename_i x
    injection h with h; subst h
    cases hv with
    | cons h1 h2 => cases h2; simpa using h1
  · rename_i hne
    cases hall : vs.all isX with
    | false => rw [hall] at h; cases h
    | true =>
      rw [hall, cond_true] at h
      injection h with h; subst h
      have hl := hv.length
      have hsz : ¬ ((⟨vs'⟩ : Array Value).size = 1) := by
        show ¬ (vs'.length = 1)
        intro e
        rw [e] at hl
        match vs, hl with
        | [y], _ => exact hne y rfl
      rw [dif_neg hsz]
      refine .tup ?_
      clear hne hsz hl
      induction hv with
      | nil => exact .nil
      | cons h1 h2 ih =>
        simp only [List.all_cons, Bool.and_eq_true] at hall
        refine .cons ?_ (ih hall.2)
        cases h1 with
        | x h => exact h
        | tup h => simp [isX] at hall

/-- WHAT THE EVALUATOR ANSWERS OF A CALL, THE MODEL ANSWERS. -/
theorem run_sound (hmix : P.follows .mixedOrders = true) {clean : Nat → Bool} {hook : Hook E.X} (hH : CallsOk E P W0 fun f vs h => match hook f with | some g => g vs h | none => none) : ∀ n, CallsOk E P W0 (run (mkFn P esc) clean hook n)
  | 0 => by intro k vs h v h' hr; simp [run] at hr
  | n + 1 => by
    intro k vs h v h' hr ρ φ w hG vs' hvs
    simp only [run] at hr
    cases hk : hook k with
    | some g =>
      rw [hk] at hr
      exact hH k vs h v h' (by simp only [hk]; exact hr) ρ φ w hG vs' hvs
    | none =>
      rw [hk] at hr
      simp only at hr
      split at hr
      · cases hr
      · rename_i fn hfn
        cases hle : Nat.ble vs.length fn.n with
        | false => rw [hle] at hr; cases hr
        | true =>
          rw [hle, cond_true] at hr
          rw [Nat.ble_eq] at hle
          unfold mkFn at hfn
          split at hfn
          · rename_i gf hgf
            split at hfn
            · rename_i c hbody
              split at hfn
              · rename_i ic is hic his
                split at hfn
                · cases hfn
                · rename_i hname
                  injection hfn with hfn; subst hfn
                  simp only at hle hr
                  refine .inl ⟨⟨gf, c, hgf, hbody, by simpa using hname⟩, ?_⟩
                  have hlen := hvs.length
                  have hst : St E W0 ρ φ (argsE 0 vs) ⟨[], h.tbl, h.next⟩ gf.ntmps { tmps := (⟨vs'⟩ : Array Value) ++ Array.replicate (gf.ntmps - (⟨vs'⟩ : Array Value).size) undef, defers := [] } w := by
                    refine ⟨?_, ?_, rfl, ?_, hG⟩
                    · intro s u hu
                      obtain ⟨_, v', h1, h2⟩ := args_er hvs hu
                      rw [Nat.sub_zero] at h1
                      have hlt : s < vs'.length := by
                        rcases Nat.lt_or_ge s vs'.length with h | h
                        · exact h
                        · rw [List.getElem?_eq_none h] at h1; cases h1
                      have : ((⟨vs'⟩ : Array Value) ++ Array.replicate (gf.ntmps - (⟨vs'⟩ : Array Value).size) undef)[s]? = some v' := by
                        rw [Array.getElem?_append_left hlt, arr_get]; exact h1
                      rw [Array.getD_eq_getD_getElem?, this]
                      exact h2
                    · simp only [Array.size_append, Array.size_replicate]
                      show vs'.length + (gf.ntmps - vs'.length) = gf.ntmps
                      omega
                    · intro i x y hx; simp [look] at hx
                  have hget : (⟨[], h.tbl, h.next⟩ : Mem E.X).get = fun i => look i h.tbl := by
                    funext i; rfl
                  have fin : ∀ (env : List (Nat × Value)) (m : Mem E.X), (match resV env m is with | some rs => (match packV rs with | some v => some (v, (⟨bif clean k then dropNew h.next m.tbl else m.tbl, m.next⟩ : Hp E.X)) | none => none) | none => none) = some (v, h') →
                      ∀ (a' : Act) (w' : World) (ρ' : Ren) (φ' : Foot), To E W0 ρ φ (⟨[], h.tbl, h.next⟩ : Mem E.X) w ρ' φ' env m gf.ntmps a' w' →
                        a'.defers = [] ∧ ∃ v0, (results gf a'.tmps).run P w' = .ok v0 w' ∧ ∃ v' ρ' φ', Ending.returned v0 = .returned v' ∧ VR ρ' v v' ∧ Post (E := E) W0 ρ φ (fun i => look i h.tbl) h.next w ρ' φ' (fun i => look i h'.tbl) h'.next w' := by
                    intro env m hres a' w' ρ' φ' ht
                    refine ⟨ht.st.df, ?_⟩
                    split at hres
                    · rename_i rs hrs
                      split at hres
                      · rename_i v1 hv1
                        simp only [Option.some.injEq, Prod.mk.injEq] at hres
                        obtain ⟨rfl, rfl⟩ := hres
                        obtain ⟨vs1, k1, k2⟩ := results_sound ht.st his hrs
                        refine ⟨_, ?_, _, ρ', φ', rfl, pack_sound hv1 k2, ?_⟩
                        · have : (gf.results.mapM (m := Sem) fun (x : ResultVar) => match x with | .tmp t => pure (a'.tmps.getD t undef) | .cell c t => do loadVar t (← asAddr (a'.tmps.getD c undef))).run P w' = .ok ⟨vs1⟩ w' := by
                            rw [← Array.toArray_toList (xs := gf.results), List.mapM_toArray]
                            simp only [Sem.run_map, k1, Result.andThen_ok]
                          change (do
                            let vs ← gf.results.mapM (m := Sem) fun (x : ResultVar) => match x with | .tmp t => pure (a'.tmps.getD t undef) | .cell c t => do loadVar t (← asAddr (a'.tmps.getD c undef))
                            pure (if h : vs.size = 1 then vs[0] else .tuple vs) : Sem Value).run P w' = _
                          rw [Sem.run_bind, this]
                          simp only [Result.andThen_ok, Sem.run_pure]
                        · have hp := ht.post
                          rw [hget] at hp
                          refine hp.part (V'' := fun i => look i (bif clean k then dropNew h.next m.tbl else m.tbl)) ?_ (Nat.le_refl _)
                          intro i o hi
                          have hi' : look i m.tbl = some o := by
                            cases hcl : clean k with
                            | false => rw [hcl, cond_false] at hi; exact hi
                            | true =>
                              rw [hcl, cond_true] at hi
                              exact (look_filter (f := fun j => Nat.blt j h.next) hi).1
                          show m.get i = some o
                          unfold Mem.get
                          cases hl : look i m.loc with
                          | some x => exact (ht.st.sep i x o hl hi').elim
                          | none => exact hi'
                      · cases hres
                    · cases hres
                  split at hr
                  · cases hr
                  · cases hr
                  · rename_i x env m hx hrc
                    refine calls_of_wp hgf hbody ?_
                    refine code_sound hmix (run_sound hmix hH n) n c ic x _ env _ m ρ φ _ w _ hic hrc hst ?_
                    intro a' w' ρ' φ' ht
                    obtain ⟨f1, v0, f2, f3⟩ := fin env m hr a' w' ρ' φ' ht
                    cases x with
                    | norm => exact ⟨f1, v0, f2, f3⟩
                    | ret => exact ⟨f1, v0, f2, f3⟩
                    | exit id => exact (hx _ rfl).elim
              · cases hfn
            · cases hfn
          · cases hfn
end Go.AI
